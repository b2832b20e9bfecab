-- Printed by a program of this session (wip/tools) over the kit's print: not trusted, Lean checks it.
import Derived.Test.YtneeeaafhjaooaaGreatDoorP0q6
import Derived.Test.YtneeeaafhjaooaaGreatDoorProg
import Derived.Test.YtneeeaafhjaooaaGreatDoorEplainq6
import Derived.Test.YtneeeaafhjaooaaGreatDoorElibq6
import Derived.Test.YtneeeaafhjaooaaGreatDoorShelfq6
import Derived.Test.YtneeeaafhjaooaaGreatDoorP1q6
import Derived.Test.YtneeeaafhjaooaaGreatDoorLibsq6
namespace Go.Proofs.YtneeeaafhjaooaaGreatDoor.P
set_option linter.all false
open Go.RowKit Go.Proofs.YtneeeaafhjaooaaGreatDoorW.PrintWords Go.Proofs.YtneeeaafhjaooaaGreatDoorW.PrintLast Go.Proofs.YtneeeaafhjaooaaGreatDoorW.PrintMore
attribute [local go_sem] max2_int min2_int max_two min_two max_three min_three max_four min_four   -- for this text's walks alone
attribute [local go_sem] cell_after
set_option linter.unusedVariables false
set_option linter.unusedSimpArgs false

/-! ### decimal_Cmp: function 11 -/
mutual
def decimal_Cmp.j0 : Nat → Bool → Bool → ByteArray → Int → Bool → ByteArray → Int → Option (Int)
 | 0,_,_,_,_,_,_,_ => none
 | k + 1,x14,x120000,x120001,x120002,x121000,x121001,x121002 => if x14 = true then (some 0) else ((decimal_sign.f x120000 x120001 x120002).bind fun t123 => ((decimal_sign.f x121000 x121001 x121002).bind fun t124 => (if t123 = t124 then (decimal_Cmp.j1 k t123 t124 (t123 == 0) x120000 x120001 x120002 x121000 x121001 x121002) else (decimal_Cmp.j1 k t123 t124 true x120000 x120001 x120002 x121000 x121001 x121002))))
def decimal_Cmp.j1 : Nat → Int → Int → Bool → Bool → ByteArray → Int → Bool → ByteArray → Int → Option (Int)
 | 0,_,_,_,_,_,_,_,_,_ => none
 | k + 1,x5,x6,x25,x120000,x120001,x120002,x121000,x121001,x121002 => if x25 = true then ((cmp_Compare_int.f x5 x6).bind fun t125 => (some t125)) else ((decimal_sign.f x120000 x120001 x120002).bind fun t126 => ((decimal_size.f k x120000 x120001 x120002 x121000 x121001 x121002).bind fun t127 => (some (wrap64 (t126 * t127)))))
end
def decimal_Cmp.f (k : Nat) (a0_0 : Bool) (a0_1 : ByteArray) (a0_2 : Int) (a1_0 : Bool) (a1_1 : ByteArray) (a1_2 : Int) : Option (Int) := (decimal_Right.f a0_0 a0_1 a0_2).bind fun t121 => (if t121 = true then ((decimal_Right.f a1_0 a1_1 a1_2).bind fun t122 => (decimal_Cmp.j0 k (!t122) a0_0 a0_1 a0_2 a1_0 a1_1 a1_2)) else (decimal_Cmp.j0 k true a0_0 a0_1 a0_2 a1_0 a1_1 a1_2))
set_option maxHeartbeats 8000000 in
set_option maxRecDepth 100000 in
theorem decimal_Cmp.calls (k : Nat) (a0_0 : Bool) (a0_1 : ByteArray) (a0_2 : Int) (a1_0 : Bool) (a1_1 : ByteArray) (a1_2 : Int) (r : Int) (w : World) (h : decimal_Cmp.f k a0_0 a0_1 a0_2 a1_0 a1_1 a1_2 = some r) :
  Calls Tryz.prog 11 #[.agg #[.bool a0_0,.string a0_1,.int .i64 a0_2],.agg #[.bool a1_0,.string a1_1,.int .i64 a1_2]] w fun e w' => e = .returned (.int .i64 r) ∧ Below w.heap.size w w' := by
 have hu23 := Tryz.underlying23
 have HB := Aside0.mk (Below.refl w.heap.size w)
 have H : ((decimal_Right.f a0_0 a0_1 a0_2).bind fun t121 => (if t121 = true then ((decimal_Right.f a1_0 a1_1 a1_2).bind fun t122 => (decimal_Cmp.j0 k (!t122) a0_0 a0_1 a0_2 a1_0 a1_1 a1_2)) else (decimal_Cmp.j0 k true a0_0 a0_1 a0_2 a1_0 a1_1 a1_2))) = some r := h
 clear h
 have HC3 := Aside0.mk H
 clear H
 go_enter Tryz.func11,Tryz.ntmps11
 go_upto_region 1 with (first | ((with_reducible refine gate_dst (N := 2) rfl ?_);refine box_event ?hg (N := 2) ?hd (cs := #[.bool a0_0,.string a0_1,.int .i64 a0_2]) (t := 23) ?hr ?_;(case hd => rfl);(case hg => rfl);(case hr => first | (go_simp;done) | (go_simp;rfl));intro gb119 hg w4 hbox hb;have n0_ := Aside0.mk (below_step (by repeat (first | (with_reducible first | exact HB.out | apply below_alloc | apply pw_below_drewN | apply below_drew1) | exact HB.out)) hb);have n1_ := Aside0.mk (hbox);have n2_ := Aside0.mk ((by rw [hg];exact (below_size (by repeat (first | (with_reducible first | exact HB.out | apply below_alloc | apply pw_below_drewN | apply below_drew1) | exact HB.out))) : w.heap.size ≤ gb119));have n3_ := Aside0.mk ((by rw [hg];exact (below_size (by repeat (first | (with_reducible first | exact HB.out | apply below_alloc | apply pw_below_drewN | apply below_drew1) | exact HB.out))) : w.heap.size ≤ gb119));clear HB;have HB := n0_;have BK119 := n1_;have GW119 := n2_;have GE119 := n3_;clear n0_ n1_ n2_ n3_;clear hb hbox hg) | ((with_reducible refine gate_dst (N := 3) rfl ?_);refine box_event ?hg (N := 3) ?hd (cs := #[.bool a1_0,.string a1_1,.int .i64 a1_2]) (t := 23) ?hr ?_;(case hd => rfl);(case hg => rfl);(case hr => first | (go_simp;done) | (go_simp;rfl));intro gb120 hg w5 hbox hb;have n0_ := Aside0.mk (blk_below (g := gb119) (o := .cells #[.bool a0_0,.string a0_1,.int .i64 a0_2] 23 (0,0)) (by (with_reducible repeat (first | refine blk_drewN ?_ _ | refine blk_drew ?_ | refine blk_alloc ?_ _));exact BK119.out) hb);have n1_ := Aside0.mk (below_step (by repeat (first | (with_reducible first | exact HB.out | apply below_alloc | apply pw_below_drewN | apply below_drew1 | refine below_set ?_ GE119.out) | exact HB.out)) hb);have n2_ := Aside0.mk (hbox);have n3_ := Aside0.mk ((by rw [hg];exact (below_size (by repeat (first | (with_reducible first | exact HB.out | apply below_alloc | apply pw_below_drewN | apply below_drew1 | refine below_set ?_ GE119.out) | exact HB.out))) : w.heap.size ≤ gb120));have n4_ := Aside0.mk ((by rw [hg];exact (below_size (by repeat (first | (with_reducible first | exact HB.out | apply below_alloc | apply pw_below_drewN | apply below_drew1 | refine below_set ?_ GE119.out) | exact HB.out))) : w.heap.size ≤ gb120));have n5_ := Aside0.mk ((by rw [hg];exact Nat.ne_of_lt (blk_lt (g := gb119) (o := .cells #[.bool a0_0,.string a0_1,.int .i64 a0_2] 23 (0,0)) (by (with_reducible repeat (first | refine blk_drewN ?_ _ | refine blk_drew ?_ | refine blk_alloc ?_ _));exact BK119.out)) : gb119 ≠ gb120));have n6_ := Aside0.mk ((by rw [hg];exact Nat.ne_of_gt (blk_lt (g := gb119) (o := .cells #[.bool a0_0,.string a0_1,.int .i64 a0_2] 23 (0,0)) (by (with_reducible repeat (first | refine blk_drewN ?_ _ | refine blk_drew ?_ | refine blk_alloc ?_ _));exact BK119.out)) : gb120 ≠ gb119));clear BK119;clear HB;have BK119 := n0_;have HB := n1_;have BK120 := n2_;have GW120 := n3_;have GE120 := n4_;have NB119_120 := n5_;have NB120_119 := n6_;clear n0_ n1_ n2_ n3_ n4_ n5_ n6_;clear hb hbox hg))
 (try simp only [Act.put,List.setIfInBounds_toArray,List.set_cons_zero,List.set_cons_succ])
 go_cut [14] (fun v14 wc => ∃ (kq : Nat) (x14_2 : Bool),v14 = .bool x14_2 ∧ Aside0 (decimal_Cmp.j0 kq x14_2 a0_0 a0_1 a0_2 a1_0 a1_1 a1_2 = some r) ∧ Aside0 (kq ≤ k) ∧ Aside0 (wc.heap[gb119]? = some (.cells #[.bool a0_0,.string a0_1,.int .i64 a0_2] 23 (0,0))) ∧ Aside0 (wc.heap[gb120]? = some (.cells #[.bool a1_0,.string a1_1,.int .i64 a1_2] 23 (0,0))) ∧ Aside0 (Below w.heap.size w wc))
 case first =>
  have H := HC3.out
  clear HC3
  replace H := Option.bind_eq_some_iff.mp H
  obtain ⟨t121,A60,H⟩ := H
  replace H : (if t121 = true then ((decimal_Right.f a1_0 a1_1 a1_2).bind fun t122 => (decimal_Cmp.j0 k (!t122) a0_0 a0_1 a0_2 a1_0 a1_1 a1_2)) else (decimal_Cmp.j0 k true a0_0 a0_1 a0_2 a1_0 a1_1 a1_2)) = some r := H
  have A6 := Aside0.mk A60
  clear A60
  by_cases c7 : t121 = true
  ·subst c7
   have H1 : ((decimal_Right.f a1_0 a1_1 a1_2).bind fun t122 => (decimal_Cmp.j0 k (!t122) a0_0 a0_1 a0_2 a1_0 a1_1 a1_2)) = some r := by rw [if_pos rfl] at H;exact H
   clear H
   have H := H1
   clear H1
   replace H := Option.bind_eq_some_iff.mp H
   obtain ⟨t122,A80,H⟩ := H
   replace H : (decimal_Cmp.j0 k (!t122) a0_0 a0_1 a0_2 a1_0 a1_1 a1_2) = some r := H
   have A8 := Aside0.mk A80
   clear A80
   have H' := Aside0.mk H
   clear H
   have hnb9 := NB119_120.out
   have hnc9 := NB120_119.out
   have hcz10_0 : w5.cell? ⟨gb119,0,none⟩ = some (.bool a0_0) := (blk_cell BK119.out 0).trans rfl
   have hcz10_1 : w5.cell? ⟨gb119,1,none⟩ = some (.string a0_1) := (blk_cell BK119.out 1).trans rfl
   have hcz10_2 : w5.cell? ⟨gb119,2,none⟩ = some (.int .i64 a0_2) := (blk_cell BK119.out 2).trans rfl
   have hfz10_0 := blk_frozen BK119.out 0
   have hfz10_1 := blk_frozen BK119.out 1
   have hfz10_2 := blk_frozen BK119.out 2
   go_wp2_with (first | ((with_reducible refine gate_callee (f := 7) rfl ?_);refine goesL_ (some 8) rfl rfl Tryz.func7 (by kernel_rfl) rfl #[.agg #[.bool a0_0,.string a0_1,.int .i64 a0_2]] rfl (by (try simp only [List.map_toArray,List.map_cons,List.map_nil]);first | done | rfl | (simp only [List.length_drop,List.length_take];rfl)) ?_;(with_reducible refine (decimal_Right.calls a0_0 a0_1 a0_2 true _ A6.out).mono ?_);rintro e w11 ⟨rfl,hb⟩;refine ⟨_,rfl,?_⟩;have n0_ := Aside0.mk (blk_below (g := gb119) (o := .cells #[.bool a0_0,.string a0_1,.int .i64 a0_2] 23 (0,0)) (by (with_reducible repeat (first | refine blk_drewN ?_ _ | refine blk_drew ?_ | refine blk_alloc ?_ _));exact BK119.out) hb);have n1_ := Aside0.mk (blk_below (g := gb120) (o := .cells #[.bool a1_0,.string a1_1,.int .i64 a1_2] 23 (0,0)) (by (with_reducible repeat (first | refine blk_drewN ?_ _ | refine blk_drew ?_ | refine blk_alloc ?_ _));exact BK120.out) hb);have n2_ := Aside0.mk (below_step (by repeat (first | (with_reducible first | exact HB.out | apply below_alloc | apply pw_below_drewN | apply below_drew1 | refine below_set ?_ GE119.out | refine below_set ?_ GE120.out) | exact HB.out)) hb);clear BK119;clear BK120;clear HB;have BK119 := n0_;have BK120 := n1_;have HB := n2_;clear n0_ n1_ n2_;(try clear hb);(try clear hb2);(try clear hk);(try clear hi);have hcz12_0 : w11.cell? ⟨gb120,0,none⟩ = some (.bool a1_0) := (blk_cell BK120.out 0).trans rfl;have hcz12_1 : w11.cell? ⟨gb120,1,none⟩ = some (.string a1_1) := (blk_cell BK120.out 1).trans rfl;have hcz12_2 : w11.cell? ⟨gb120,2,none⟩ = some (.int .i64 a1_2) := (blk_cell BK120.out 2).trans rfl;have hfz12_0 := blk_frozen BK120.out 0;have hfz12_1 := blk_frozen BK120.out 1;have hfz12_2 := blk_frozen BK120.out 2) | (go_at_call 7;(with_reducible refine (decimal_Right.calls a1_0 a1_1 a1_2 t122 _ A8.out).mono ?_);rintro e w13 ⟨rfl,hb⟩;have n0_ := Aside0.mk (blk_below (g := gb119) (o := .cells #[.bool a0_0,.string a0_1,.int .i64 a0_2] 23 (0,0)) (by (with_reducible repeat (first | refine blk_drewN ?_ _ | refine blk_drew ?_ | refine blk_alloc ?_ _));exact BK119.out) hb);have n1_ := Aside0.mk (blk_below (g := gb120) (o := .cells #[.bool a1_0,.string a1_1,.int .i64 a1_2] 23 (0,0)) (by (with_reducible repeat (first | refine blk_drewN ?_ _ | refine blk_drew ?_ | refine blk_alloc ?_ _));exact BK120.out) hb);have n2_ := Aside0.mk (below_step (by repeat (first | (with_reducible first | exact HB.out | apply below_alloc | apply pw_below_drewN | apply below_drew1 | refine below_set ?_ GE119.out | refine below_set ?_ GE120.out) | exact HB.out)) hb);clear BK119;clear BK120;clear HB;have BK119 := n0_;have BK120 := n1_;have HB := n2_;clear n0_ n1_ n2_;(try clear hb);(try clear hb2);(try clear hk);(try clear hi)))
   go_meet
   case rel => exact ⟨_,(!t122),(by first | rfl | (simp;done) | (simp [*];done)),H',⟨by first | omega | exact Nat.le_refl _⟩,⟨by (with_reducible repeat (first | refine blk_drewN ?_ _ | refine blk_drew ?_ | refine blk_alloc ?_ _));exact BK119.out⟩,⟨by (with_reducible repeat (first | refine blk_drewN ?_ _ | refine blk_drew ?_ | refine blk_alloc ?_ _));exact BK120.out⟩,⟨by repeat (first | (with_reducible first | exact HB.out | apply below_alloc | apply pw_below_drewN | apply below_drew1 | refine below_set ?_ GE119.out | refine below_set ?_ GE120.out) | exact HB.out)⟩⟩
  ·replace c7 := Bool.eq_false_iff.mpr c7
   subst c7
   have H1 : (decimal_Cmp.j0 k true a0_0 a0_1 a0_2 a1_0 a1_1 a1_2) = some r := by rw [if_neg (show ¬ (false = true) by decide)] at H;exact H
   clear H
   have H := H1
   clear H1
   have H' := Aside0.mk H
   clear H
   have hnb14 := NB119_120.out
   have hnc14 := NB120_119.out
   have hcz15_0 : w5.cell? ⟨gb119,0,none⟩ = some (.bool a0_0) := (blk_cell BK119.out 0).trans rfl
   have hcz15_1 : w5.cell? ⟨gb119,1,none⟩ = some (.string a0_1) := (blk_cell BK119.out 1).trans rfl
   have hcz15_2 : w5.cell? ⟨gb119,2,none⟩ = some (.int .i64 a0_2) := (blk_cell BK119.out 2).trans rfl
   have hfz15_0 := blk_frozen BK119.out 0
   have hfz15_1 := blk_frozen BK119.out 1
   have hfz15_2 := blk_frozen BK119.out 2
   go_wp2_with (first | ((with_reducible refine gate_callee (f := 7) rfl ?_);refine goesL_ (some 8) rfl rfl Tryz.func7 (by kernel_rfl) rfl #[.agg #[.bool a0_0,.string a0_1,.int .i64 a0_2]] rfl (by (try simp only [List.map_toArray,List.map_cons,List.map_nil]);first | done | rfl | (simp only [List.length_drop,List.length_take];rfl)) ?_;(with_reducible refine (decimal_Right.calls a0_0 a0_1 a0_2 false _ A6.out).mono ?_);rintro e w16 ⟨rfl,hb⟩;refine ⟨_,rfl,?_⟩;have n0_ := Aside0.mk (blk_below (g := gb119) (o := .cells #[.bool a0_0,.string a0_1,.int .i64 a0_2] 23 (0,0)) (by (with_reducible repeat (first | refine blk_drewN ?_ _ | refine blk_drew ?_ | refine blk_alloc ?_ _));exact BK119.out) hb);have n1_ := Aside0.mk (blk_below (g := gb120) (o := .cells #[.bool a1_0,.string a1_1,.int .i64 a1_2] 23 (0,0)) (by (with_reducible repeat (first | refine blk_drewN ?_ _ | refine blk_drew ?_ | refine blk_alloc ?_ _));exact BK120.out) hb);have n2_ := Aside0.mk (below_step (by repeat (first | (with_reducible first | exact HB.out | apply below_alloc | apply pw_below_drewN | apply below_drew1 | refine below_set ?_ GE119.out | refine below_set ?_ GE120.out) | exact HB.out)) hb);clear BK119;clear BK120;clear HB;have BK119 := n0_;have BK120 := n1_;have HB := n2_;clear n0_ n1_ n2_;(try clear hb);(try clear hb2);(try clear hk);(try clear hi)))
   go_meet
   case rel => exact ⟨_,(true),(by first | rfl | (simp;done) | (simp [*];done)),H',⟨by first | omega | exact Nat.le_refl _⟩,⟨by (with_reducible repeat (first | refine blk_drewN ?_ _ | refine blk_drew ?_ | refine blk_alloc ?_ _));exact BK119.out⟩,⟨by (with_reducible repeat (first | refine blk_drewN ?_ _ | refine blk_drew ?_ | refine blk_alloc ?_ _));exact BK120.out⟩,⟨by repeat (first | (with_reducible first | exact HB.out | apply below_alloc | apply pw_below_drewN | apply below_drew1 | refine below_set ?_ GE119.out | refine below_set ?_ GE120.out) | exact HB.out)⟩⟩
 case rest =>
  clear HC3
  try clear c1
  try clear p2
  try clear c7
  try clear c9
  try clear c11
  try clear c14
  try clear hcz10_0
  try clear hcz10_1
  try clear hcz10_2
  try clear hcz12_0
  try clear hcz12_1
  try clear hcz12_2
  try clear hcz15_0
  try clear hcz15_1
  try clear hcz15_2
  try clear hfz10_0
  try clear hfz10_1
  try clear hfz10_2
  try clear hfz12_0
  try clear hfz12_1
  try clear hfz12_2
  try clear hfz15_0
  try clear hfz15_1
  try clear hfz15_2
  obtain ⟨kq,x14_2,rfl,HA,HJ2,BK119,BK120,HB⟩ := hcut
  cases kq with
  | zero => exact absurd HA.out (by simp [decimal_Cmp.j0])
  | succ kj2 =>
   have H := HA.out
   clear HA
   simp only [decimal_Cmp.j0] at H
   by_cases c17 : x14_2 = true
   ·subst c17
    have H1 : (some 0) = some r := by rw [if_pos rfl] at H;exact H
    clear H
    have H := H1
    clear H1
    obtain rfl := Option.some.inj H
    go_wp2
    go_ret
    exact ⟨by first | rfl | (simp [errW_none,errW_some] <;> rfl) | (simp [*,errW_none,errW_some] <;> rfl),by repeat (first | (with_reducible first | exact HB.out | apply below_alloc | apply pw_below_drewN | apply below_drew1 | refine below_set ?_ GE119.out | refine below_set ?_ GE120.out) | exact HB.out)⟩
   ·replace c17 := Bool.eq_false_iff.mpr c17
    subst c17
    have H1 : ((decimal_sign.f a0_0 a0_1 a0_2).bind fun t123 => ((decimal_sign.f a1_0 a1_1 a1_2).bind fun t124 => (if t123 = t124 then (decimal_Cmp.j1 kj2 t123 t124 (t123 == 0) a0_0 a0_1 a0_2 a1_0 a1_1 a1_2) else (decimal_Cmp.j1 kj2 t123 t124 true a0_0 a0_1 a0_2 a1_0 a1_1 a1_2)))) = some r := by rw [if_neg (show ¬ (false = true) by decide)] at H;exact H
    clear H
    have H := H1
    clear H1
    replace H := Option.bind_eq_some_iff.mp H
    obtain ⟨t123,A180,H⟩ := H
    replace H : ((decimal_sign.f a1_0 a1_1 a1_2).bind fun t124 => (if t123 = t124 then (decimal_Cmp.j1 kj2 t123 t124 (t123 == 0) a0_0 a0_1 a0_2 a1_0 a1_1 a1_2) else (decimal_Cmp.j1 kj2 t123 t124 true a0_0 a0_1 a0_2 a1_0 a1_1 a1_2))) = some r := H
    have A18 := Aside0.mk A180
    clear A180
    replace H := Option.bind_eq_some_iff.mp H
    obtain ⟨t124,A190,H⟩ := H
    replace H : (if t123 = t124 then (decimal_Cmp.j1 kj2 t123 t124 (t123 == 0) a0_0 a0_1 a0_2 a1_0 a1_1 a1_2) else (decimal_Cmp.j1 kj2 t123 t124 true a0_0 a0_1 a0_2 a1_0 a1_1 a1_2)) = some r := H
    have A19 := Aside0.mk A190
    clear A190
    have HC20 := Aside0.mk H
    clear H
    try go_wp2
    have n0_ := Aside0.mk (blk_drew BK119.out)
    have n1_ := Aside0.mk (blk_drew BK120.out)
    have n2_ := Aside0.mk (below_drew1 HB.out)
    clear BK119
    clear BK120
    clear HB
    have BK119 := n0_
    have BK120 := n1_
    have HB := n2_
    clear n0_ n1_ n2_
    refine start_ (n := 6) (S := fun w' => w'.cell? ⟨gb119,0,none⟩ = some (.bool a0_0) ∧ w'.cell? ⟨gb119,1,none⟩ = some (.string a0_1) ∧ w'.cell? ⟨gb119,2,none⟩ = some (.int .i64 a0_2) ∧ w'.cell? ⟨gb120,0,none⟩ = some (.bool a1_0) ∧ w'.cell? ⟨gb120,1,none⟩ = some (.string a1_1) ∧ w'.cell? ⟨gb120,2,none⟩ = some (.int .i64 a1_2)) (ds := []) #[false,false,false,false,false,false] (by kernel_rfl) rfl rfl ⟨(blk_cell BK119.out 0).trans rfl,(blk_cell BK119.out 1).trans rfl,(blk_cell BK119.out 2).trans rfl,(blk_cell BK120.out 0).trans rfl,(blk_cell BK120.out 1).trans rfl,(blk_cell BK120.out 2).trans rfl⟩ (fun hHeld => ?_)
    generalize wc.drew = w21 at BK119 BK120 HB hHeld ⊢
    refine take_ (i := 0) (N := some 15) (v := ?_) (a' := ?_) #[true,false,false,false,false,false] rfl rfl (by kernel_rfl) (fun _ _ _ h => h) (Or.inl ⟨by rfl,?_⟩) hHeld ?_ ?_
    rotate_left
    ·rintro w' ⟨s0,s1,s2,s3,s4,s5⟩
     go_simp
     with_reducible rfl
    rotate_left
    ·simp only [Act.put,List.setIfInBounds_toArray,List.set_cons_zero,List.set_cons_succ,i64_w,i32_w]
     rfl
    refine take_ (i := 2) (N := some 17) (v := ?_) (a' := ?_) #[true,false,true,false,false,false] rfl rfl (by kernel_rfl) (fun _ _ _ h => h) (Or.inl ⟨by rfl,?_⟩) hHeld ?_ ?_
    rotate_left
    ·rintro w' ⟨s0,s1,s2,s3,s4,s5⟩
     go_simp
     with_reducible rfl
    rotate_left
    ·simp only [Act.put,List.setIfInBounds_toArray,List.set_cons_zero,List.set_cons_succ,i64_w,i32_w]
     rfl
    refine one_ (i := 1) (N := some 16) #[true,true,true,false,false,false] rfl rfl (by kernel_rfl) (by decide) (fun K hK => ?_)
    refine goes_ Tryz.func23 (by kernel_rfl) rfl #[.agg #[.bool a0_0,.string a0_1,.int .i64 a0_2]] (by rfl) rfl rfl (by (try simp only [List.map_toArray,List.map_cons,List.map_nil]);first | done | rfl | (simp only [List.length_drop,List.length_take];rfl)) ?_
    with_reducible refine (decimal_sign.calls a0_0 a0_1 a0_2 t123 _ A18.out).mono ?_
    rintro e w22 ⟨rfl,hb⟩
    refine ⟨_,rfl,?_⟩
    have n0_ := Aside0.mk (blk_below (g := gb119) (o := .cells #[.bool a0_0,.string a0_1,.int .i64 a0_2] 23 (0,0)) (by (with_reducible repeat (first | refine blk_drewN ?_ _ | refine blk_drew ?_ | refine blk_alloc ?_ _));exact BK119.out) hb)
    have n1_ := Aside0.mk (blk_below (g := gb120) (o := .cells #[.bool a1_0,.string a1_1,.int .i64 a1_2] 23 (0,0)) (by (with_reducible repeat (first | refine blk_drewN ?_ _ | refine blk_drew ?_ | refine blk_alloc ?_ _));exact BK120.out) hb)
    have n2_ := Aside0.mk (below_step (by repeat (first | (with_reducible first | exact HB.out | apply below_alloc | apply pw_below_drewN | apply below_drew1 | refine below_set ?_ GE119.out | refine below_set ?_ GE120.out) | exact HB.out)) hb)
    clear BK119
    clear BK120
    clear HB
    have BK119 := n0_
    have BK120 := n1_
    have HB := n2_
    clear n0_ n1_ n2_
    (try clear hb)
    (try clear hb2)
    (try clear hk)
    (try clear hi)
    refine hK.out _ _ ⟨(blk_cell BK119.out 0).trans rfl,(blk_cell BK119.out 1).trans rfl,(blk_cell BK119.out 2).trans rfl,(blk_cell BK120.out 0).trans rfl,(blk_cell BK120.out 1).trans rfl,(blk_cell BK120.out 2).trans rfl⟩ (fun hHeld => ?_)
    clear hK K
    refine norm_ (a' := ?_) ?_ ?_
    rotate_left
    ·show Act.put _ (some 16) _ = _
     simp only [Act.put,List.setIfInBounds_toArray,List.set_cons_zero,List.set_cons_succ,i64_w,i32_w]
     rfl
    refine one_ (i := 3) (N := some 18) #[true,true,true,true,false,false] rfl rfl (by kernel_rfl) (by decide) (fun K hK => ?_)
    refine goes_ Tryz.func23 (by kernel_rfl) rfl #[.agg #[.bool a1_0,.string a1_1,.int .i64 a1_2]] (by rfl) rfl rfl (by (try simp only [List.map_toArray,List.map_cons,List.map_nil]);first | done | rfl | (simp only [List.length_drop,List.length_take];rfl)) ?_
    with_reducible refine (decimal_sign.calls a1_0 a1_1 a1_2 t124 _ A19.out).mono ?_
    rintro e w23 ⟨rfl,hb⟩
    refine ⟨_,rfl,?_⟩
    have n0_ := Aside0.mk (blk_below (g := gb119) (o := .cells #[.bool a0_0,.string a0_1,.int .i64 a0_2] 23 (0,0)) (by (with_reducible repeat (first | refine blk_drewN ?_ _ | refine blk_drew ?_ | refine blk_alloc ?_ _));exact BK119.out) hb)
    have n1_ := Aside0.mk (blk_below (g := gb120) (o := .cells #[.bool a1_0,.string a1_1,.int .i64 a1_2] 23 (0,0)) (by (with_reducible repeat (first | refine blk_drewN ?_ _ | refine blk_drew ?_ | refine blk_alloc ?_ _));exact BK120.out) hb)
    have n2_ := Aside0.mk (below_step (by repeat (first | (with_reducible first | exact HB.out | apply below_alloc | apply pw_below_drewN | apply below_drew1 | refine below_set ?_ GE119.out | refine below_set ?_ GE120.out) | exact HB.out)) hb)
    clear BK119
    clear BK120
    clear HB
    have BK119 := n0_
    have BK120 := n1_
    have HB := n2_
    clear n0_ n1_ n2_
    (try clear hb)
    (try clear hb2)
    (try clear hk)
    (try clear hi)
    refine hK.out _ _ ⟨(blk_cell BK119.out 0).trans rfl,(blk_cell BK119.out 1).trans rfl,(blk_cell BK119.out 2).trans rfl,(blk_cell BK120.out 0).trans rfl,(blk_cell BK120.out 1).trans rfl,(blk_cell BK120.out 2).trans rfl⟩ (fun hHeld => ?_)
    clear hK K
    refine norm_ (a' := ?_) ?_ ?_
    rotate_left
    ·show Act.put _ (some 18) _ = _
     simp only [Act.put,List.setIfInBounds_toArray,List.set_cons_zero,List.set_cons_succ,i64_w,i32_w]
     rfl
    refine pure_ (i := 4) (N := some 5) (v := ?_) (a' := ?_) #[true,true,true,true,true,false] rfl rfl (by kernel_rfl) (fun _ _ _ h => h) (Or.inl ⟨by rfl,?_⟩) ?_ ?_
    rotate_left
    ·intro w'
     go_simp
     with_reducible rfl
    rotate_left
    ·simp only [Act.put,List.setIfInBounds_toArray,List.set_cons_zero,List.set_cons_succ,i64_w,i32_w]
     rfl
    refine pure_ (i := 5) (N := some 6) (v := ?_) (a' := ?_) #[true,true,true,true,true,true] rfl rfl (by kernel_rfl) (fun _ _ _ h => h) (Or.inl ⟨by rfl,?_⟩) ?_ ?_
    rotate_left
    ·intro w'
     go_simp
     with_reducible rfl
    rotate_left
    ·simp only [Act.put,List.setIfInBounds_toArray,List.set_cons_zero,List.set_cons_succ,i64_w,i32_w]
     rfl
    refine done_ (by kernel_rfl) ?_
    go_upto_region 4 with (fail)
    go_cut [25] (fun v25 wc => ∃ (kq : Nat) (x25_19 : Bool),v25 = .bool x25_19 ∧ Aside0 (decimal_Cmp.j1 kq t123 t124 x25_19 a0_0 a0_1 a0_2 a1_0 a1_1 a1_2 = some r) ∧ Aside0 (kq ≤ kj2) ∧ Aside0 (wc.heap[gb119]? = some (.cells #[.bool a0_0,.string a0_1,.int .i64 a0_2] 23 (0,0))) ∧ Aside0 (wc.heap[gb120]? = some (.cells #[.bool a1_0,.string a1_1,.int .i64 a1_2] 23 (0,0))) ∧ Aside0 (Below w.heap.size w wc))
    case first =>
     have H := HC20.out
     clear HC20
     by_cases c24 : t123 = t124
     ·rw [if_pos c24] at H
      have c24b0 : (t123 == t124) = true := beq_iff_eq.mpr c24
      have c24b1 : (t123 != t124) = false := bne_eq_false_iff_eq.mpr c24
      clear c24
      (first | rw [c24b0] | (simp only [i64_w,i32_w];rw [c24b0]) | skip)
      have H' := Aside0.mk H
      clear H
      go_wp2
      go_meet
      case rel => exact ⟨_,((t123 == 0)),(by first | rfl | (simp;done) | (simp [*];done)),H',⟨by have := HJ2.out;first | omega | exact Nat.le_refl _⟩,⟨by (with_reducible repeat (first | refine blk_drewN ?_ _ | refine blk_drew ?_ | refine blk_alloc ?_ _));exact BK119.out⟩,⟨by (with_reducible repeat (first | refine blk_drewN ?_ _ | refine blk_drew ?_ | refine blk_alloc ?_ _));exact BK120.out⟩,⟨by repeat (first | (with_reducible first | exact HB.out | apply below_alloc | apply pw_below_drewN | apply below_drew1 | refine below_set ?_ GE119.out | refine below_set ?_ GE120.out) | exact HB.out)⟩⟩
     ·rw [if_neg c24] at H
      have c24b0 : (t123 == t124) = false := beq_eq_false_iff_ne.mpr c24
      have c24b1 : (t123 != t124) = true := bne_iff_ne.mpr c24
      (first | rw [c24b0] | (simp only [i64_w,i32_w];rw [c24b0]) | skip)
      have H' := Aside0.mk H
      clear H
      go_wp2
      go_meet
      case rel => exact ⟨_,(true),(by first | rfl | (simp;done) | (simp [*];done)),H',⟨by have := HJ2.out;first | omega | exact Nat.le_refl _⟩,⟨by (with_reducible repeat (first | refine blk_drewN ?_ _ | refine blk_drew ?_ | refine blk_alloc ?_ _));exact BK119.out⟩,⟨by (with_reducible repeat (first | refine blk_drewN ?_ _ | refine blk_drew ?_ | refine blk_alloc ?_ _));exact BK120.out⟩,⟨by repeat (first | (with_reducible first | exact HB.out | apply below_alloc | apply pw_below_drewN | apply below_drew1 | refine below_set ?_ GE119.out | refine below_set ?_ GE120.out) | exact HB.out)⟩⟩
    case rest =>
     clear HC20
     try clear c1
     try clear c2
     try clear p2
     try clear c7
     try clear c9
     try clear c11
     try clear c14
     try clear c17
     try clear c23
     try clear c24
     try clear c24b0
     try clear c24b1
     try clear hcz10_0
     try clear hcz10_1
     try clear hcz10_2
     try clear hcz12_0
     try clear hcz12_1
     try clear hcz12_2
     try clear hcz15_0
     try clear hcz15_1
     try clear hcz15_2
     try clear hfz10_0
     try clear hfz10_1
     try clear hfz10_2
     try clear hfz12_0
     try clear hfz12_1
     try clear hfz12_2
     try clear hfz15_0
     try clear hfz15_1
     try clear hfz15_2
     try clear p2
     obtain ⟨kq,x25_19,rfl,HA,HJ19,BK119,BK120,HB⟩ := hcut
     cases kq with
     | zero => exact absurd HA.out (by simp [decimal_Cmp.j1])
     | succ kj19 =>
      have H := HA.out
      clear HA
      simp only [decimal_Cmp.j1] at H
      by_cases c25 : x25_19 = true
      ·subst c25
       have H1 : ((cmp_Compare_int.f t123 t124).bind fun t125 => (some t125)) = some r := by rw [if_pos rfl] at H;exact H
       clear H
       have H := H1
       clear H1
       replace H := Option.bind_eq_some_iff.mp H
       obtain ⟨t125,A260,H⟩ := H
       replace H : (some t125) = some r := H
       have A26 := Aside0.mk A260
       clear A260
       obtain rfl := Option.some.inj H
       go_wp2_with (first | ((with_reducible refine gate_callee (f := 24) rfl ?_);refine goesL_ (some 28) rfl rfl Tryz.func24 (by kernel_rfl) rfl #[.int .i64 t123,.int .i64 t124] rfl (by (try simp only [List.map_toArray,List.map_cons,List.map_nil]);first | done | rfl | (simp only [List.length_drop,List.length_take];rfl)) ?_;(with_reducible refine (cmp_Compare_int.calls t123 t124 t125 _ A26.out).mono ?_);rintro e w' ⟨rfl,⟨nd,rfl⟩⟩;refine ⟨_,rfl,?_⟩))
       go_ret
       exact ⟨by first | rfl | (simp [errW_none,errW_some] <;> rfl) | (simp [*,errW_none,errW_some] <;> rfl),by repeat (first | (with_reducible first | exact HB.out | apply below_alloc | apply pw_below_drewN | apply below_drew1 | refine below_set ?_ GE119.out | refine below_set ?_ GE120.out) | exact HB.out)⟩
      ·replace c25 := Bool.eq_false_iff.mpr c25
       subst c25
       have H1 : ((decimal_sign.f a0_0 a0_1 a0_2).bind fun t126 => ((decimal_size.f kj19 a0_0 a0_1 a0_2 a1_0 a1_1 a1_2).bind fun t127 => (some (wrap64 (t126 * t127))))) = some r := by rw [if_neg (show ¬ (false = true) by decide)] at H;exact H
       clear H
       have H := H1
       clear H1
       replace H := Option.bind_eq_some_iff.mp H
       obtain ⟨t126,A270,H⟩ := H
       replace H : ((decimal_size.f kj19 a0_0 a0_1 a0_2 a1_0 a1_1 a1_2).bind fun t127 => (some (wrap64 (t126 * t127)))) = some r := H
       have A27 := Aside0.mk A270
       clear A270
       replace H := Option.bind_eq_some_iff.mp H
       obtain ⟨t127,A280,H⟩ := H
       replace H : (some (wrap64 (t126 * t127))) = some r := H
       have A28 := Aside0.mk A280
       clear A280
       obtain rfl := Option.some.inj H
       try go_wp2
       have n0_ := Aside0.mk (blk_drew BK119.out)
       have n1_ := Aside0.mk (blk_drew BK120.out)
       have n2_ := Aside0.mk (below_drew1 HB.out)
       clear BK119
       clear BK120
       clear HB
       have BK119 := n0_
       have BK120 := n1_
       have HB := n2_
       clear n0_ n1_ n2_
       refine start_ (n := 7) (S := fun w' => w'.cell? ⟨gb119,0,none⟩ = some (.bool a0_0) ∧ w'.cell? ⟨gb119,1,none⟩ = some (.string a0_1) ∧ w'.cell? ⟨gb119,2,none⟩ = some (.int .i64 a0_2) ∧ w'.cell? ⟨gb120,0,none⟩ = some (.bool a1_0) ∧ w'.cell? ⟨gb120,1,none⟩ = some (.string a1_1) ∧ w'.cell? ⟨gb120,2,none⟩ = some (.int .i64 a1_2)) (ds := []) #[false,false,false,false,false,false,false] (by kernel_rfl) rfl rfl ⟨(blk_cell BK119.out 0).trans rfl,(blk_cell BK119.out 1).trans rfl,(blk_cell BK119.out 2).trans rfl,(blk_cell BK120.out 0).trans rfl,(blk_cell BK120.out 1).trans rfl,(blk_cell BK120.out 2).trans rfl⟩ (fun hHeld => ?_)
       generalize wc.drew = w29 at BK119 BK120 HB hHeld ⊢
       refine take_ (i := 0) (N := some 29) (v := ?_) (a' := ?_) #[true,false,false,false,false,false,false] rfl rfl (by kernel_rfl) (fun _ _ _ h => h) (Or.inl ⟨by rfl,?_⟩) hHeld ?_ ?_
       rotate_left
       ·rintro w' ⟨s0,s1,s2,s3,s4,s5⟩
        go_simp
        with_reducible rfl
       rotate_left
       ·simp only [Act.put,List.setIfInBounds_toArray,List.set_cons_zero,List.set_cons_succ,i64_w,i32_w]
        rfl
       refine take_ (i := 2) (N := some 31) (v := ?_) (a' := ?_) #[true,false,true,false,false,false,false] rfl rfl (by kernel_rfl) (fun _ _ _ h => h) (Or.inl ⟨by rfl,?_⟩) hHeld ?_ ?_
       rotate_left
       ·rintro w' ⟨s0,s1,s2,s3,s4,s5⟩
        go_simp
        with_reducible rfl
       rotate_left
       ·simp only [Act.put,List.setIfInBounds_toArray,List.set_cons_zero,List.set_cons_succ,i64_w,i32_w]
        rfl
       refine take_ (i := 3) (N := some 32) (v := ?_) (a' := ?_) #[true,false,true,true,false,false,false] rfl rfl (by kernel_rfl) (fun _ _ _ h => h) (Or.inl ⟨by rfl,?_⟩) hHeld ?_ ?_
       rotate_left
       ·rintro w' ⟨s0,s1,s2,s3,s4,s5⟩
        go_simp
        with_reducible rfl
       rotate_left
       ·simp only [Act.put,List.setIfInBounds_toArray,List.set_cons_zero,List.set_cons_succ,i64_w,i32_w]
        rfl
       refine one_ (i := 1) (N := some 30) #[true,true,true,true,false,false,false] rfl rfl (by kernel_rfl) (by decide) (fun K hK => ?_)
       refine goes_ Tryz.func23 (by kernel_rfl) rfl #[.agg #[.bool a0_0,.string a0_1,.int .i64 a0_2]] (by rfl) rfl rfl (by (try simp only [List.map_toArray,List.map_cons,List.map_nil]);first | done | rfl | (simp only [List.length_drop,List.length_take];rfl)) ?_
       with_reducible refine (decimal_sign.calls a0_0 a0_1 a0_2 t126 _ A27.out).mono ?_
       rintro e w30 ⟨rfl,hb⟩
       refine ⟨_,rfl,?_⟩
       have n0_ := Aside0.mk (blk_below (g := gb119) (o := .cells #[.bool a0_0,.string a0_1,.int .i64 a0_2] 23 (0,0)) (by (with_reducible repeat (first | refine blk_drewN ?_ _ | refine blk_drew ?_ | refine blk_alloc ?_ _));exact BK119.out) hb)
       have n1_ := Aside0.mk (blk_below (g := gb120) (o := .cells #[.bool a1_0,.string a1_1,.int .i64 a1_2] 23 (0,0)) (by (with_reducible repeat (first | refine blk_drewN ?_ _ | refine blk_drew ?_ | refine blk_alloc ?_ _));exact BK120.out) hb)
       have n2_ := Aside0.mk (below_step (by repeat (first | (with_reducible first | exact HB.out | apply below_alloc | apply pw_below_drewN | apply below_drew1 | refine below_set ?_ GE119.out | refine below_set ?_ GE120.out) | exact HB.out)) hb)
       clear BK119
       clear BK120
       clear HB
       have BK119 := n0_
       have BK120 := n1_
       have HB := n2_
       clear n0_ n1_ n2_
       (try clear hb)
       (try clear hb2)
       (try clear hk)
       (try clear hi)
       refine hK.out _ _ ⟨(blk_cell BK119.out 0).trans rfl,(blk_cell BK119.out 1).trans rfl,(blk_cell BK119.out 2).trans rfl,(blk_cell BK120.out 0).trans rfl,(blk_cell BK120.out 1).trans rfl,(blk_cell BK120.out 2).trans rfl⟩ (fun hHeld => ?_)
       clear hK K
       refine norm_ (a' := ?_) ?_ ?_
       rotate_left
       ·show Act.put _ (some 30) _ = _
        simp only [Act.put,List.setIfInBounds_toArray,List.set_cons_zero,List.set_cons_succ,i64_w,i32_w]
        rfl
       refine one_ (i := 4) (N := some 33) #[true,true,true,true,true,false,false] rfl rfl (by kernel_rfl) (by decide) (fun K hK => ?_)
       refine goes_ Tryz.func25 (by kernel_rfl) rfl #[.agg #[.bool a0_0,.string a0_1,.int .i64 a0_2],.agg #[.bool a1_0,.string a1_1,.int .i64 a1_2]] (by rfl) rfl rfl (by (try simp only [List.map_toArray,List.map_cons,List.map_nil]);first | done | rfl | (simp only [List.length_drop,List.length_take];rfl)) ?_
       with_reducible refine (decimal_size.calls kj19 a0_0 a0_1 a0_2 a1_0 a1_1 a1_2 t127 _ A28.out).mono ?_
       rintro e w31 ⟨rfl,hb⟩
       refine ⟨_,rfl,?_⟩
       have n0_ := Aside0.mk (blk_below (g := gb119) (o := .cells #[.bool a0_0,.string a0_1,.int .i64 a0_2] 23 (0,0)) (by (with_reducible repeat (first | refine blk_drewN ?_ _ | refine blk_drew ?_ | refine blk_alloc ?_ _));exact BK119.out) hb)
       have n1_ := Aside0.mk (blk_below (g := gb120) (o := .cells #[.bool a1_0,.string a1_1,.int .i64 a1_2] 23 (0,0)) (by (with_reducible repeat (first | refine blk_drewN ?_ _ | refine blk_drew ?_ | refine blk_alloc ?_ _));exact BK120.out) hb)
       have n2_ := Aside0.mk (below_step (by repeat (first | (with_reducible first | exact HB.out | apply below_alloc | apply pw_below_drewN | apply below_drew1 | refine below_set ?_ GE119.out | refine below_set ?_ GE120.out) | exact HB.out)) hb)
       clear BK119
       clear BK120
       clear HB
       have BK119 := n0_
       have BK120 := n1_
       have HB := n2_
       clear n0_ n1_ n2_
       (try clear hb)
       (try clear hb2)
       (try clear hk)
       (try clear hi)
       refine hK.out _ _ ⟨(blk_cell BK119.out 0).trans rfl,(blk_cell BK119.out 1).trans rfl,(blk_cell BK119.out 2).trans rfl,(blk_cell BK120.out 0).trans rfl,(blk_cell BK120.out 1).trans rfl,(blk_cell BK120.out 2).trans rfl⟩ (fun hHeld => ?_)
       clear hK K
       refine norm_ (a' := ?_) ?_ ?_
       rotate_left
       ·show Act.put _ (some 33) _ = _
        simp only [Act.put,List.setIfInBounds_toArray,List.set_cons_zero,List.set_cons_succ,i64_w,i32_w]
        rfl
       refine pure_ (i := 5) (N := some 34) (v := ?_) (a' := ?_) #[true,true,true,true,true,true,false] rfl rfl (by kernel_rfl) (fun _ _ _ h => h) (Or.inl ⟨by rfl,?_⟩) ?_ ?_
       rotate_left
       ·intro w'
        go_simp
        with_reducible rfl
       rotate_left
       ·simp only [Act.put,List.setIfInBounds_toArray,List.set_cons_zero,List.set_cons_succ,i64_w,i32_w]
        rfl
       refine pure_ (i := 6) (N := some 4) (v := ?_) (a' := ?_) #[true,true,true,true,true,true,true] rfl rfl (by kernel_rfl) (fun _ _ _ h => h) (Or.inl ⟨by rfl,?_⟩) ?_ ?_
       rotate_left
       ·intro w'
        go_simp
        with_reducible rfl
       rotate_left
       ·simp only [Act.put,List.setIfInBounds_toArray,List.set_cons_zero,List.set_cons_succ,i64_w,i32_w]
        rfl
       refine done_ (by kernel_rfl) ?_
       try go_wp2
       go_ret
       exact ⟨by first | rfl | (simp [errW_none,errW_some] <;> rfl) | (simp [*,errW_none,errW_some] <;> rfl),by repeat (first | (with_reducible first | exact HB.out | apply below_alloc | apply pw_below_drewN | apply below_drew1 | refine below_set ?_ GE119.out | refine below_set ?_ GE120.out) | exact HB.out)⟩

/-! ### decimal_Make: function 5 -/
def decimal_Make.f (a0 : Bool) (a1 : ByteArray) (a2 : Int) : Option (Bool × ByteArray × Int × Int) := (decimal_plain.f a1).bind fun t129 => (if t129 = true then ((strings_TrimLeft.f a1 (⟨#[48]⟩ : ByteArray)).bind fun t130 => ((strings_TrimRight.f t130 (⟨#[48]⟩ : ByteArray)).bind fun t131 => (if t131.toList = ([] : List UInt8) then (some (a0,t131,0,0)) else (if (mx a2 (wrap64 (-(wrap64 (a2 + 1))))) < 1099511627776 then ((decimal_Right.f a0 t131 (wrap64 (a2 + (wrap64 ((t130.size : Int) - (t131.size : Int)))))).bind fun t133 => (if t133 = true then (some (a0,t131,wrap64 (a2 + (wrap64 ((t130.size : Int) - (t131.size : Int)))),0)) else (some (false,(⟨#[]⟩ : ByteArray),0,2)))) else ((decimal_Right.f a0 t131 a2).bind fun t134 => (if t134 = true then (some (a0,t131,a2,0)) else (some (false,(⟨#[]⟩ : ByteArray),0,2)))))))) else (some (false,(⟨#[]⟩ : ByteArray),0,3)))
set_option maxHeartbeats 8000000 in
set_option maxRecDepth 100000 in
theorem decimal_Make.calls (a0 : Bool) (a1 : ByteArray) (a2 : Int) (r1 : Bool) (r2 : ByteArray) (r3 : Int) (r4 : Int) (w : World) (h : decimal_Make.f a0 a1 a2 = some (r1,r2,r3,r4)) :
  Calls Tryz.prog 5 #[.bool a0,.string a1,.int .i64 a2] w fun e w' => e = .returned (.tuple #[.agg #[.bool r1,.string r2,.int .i64 r3],.int .i64 r4]) ∧ Below w.heap.size w w' := by
 have hu23 := Tryz.underlying23
 have HB := Aside0.mk (Below.refl w.heap.size w)
 have H : ((decimal_plain.f a1).bind fun t129 => (if t129 = true then ((strings_TrimLeft.f a1 (⟨#[48]⟩ : ByteArray)).bind fun t130 => ((strings_TrimRight.f t130 (⟨#[48]⟩ : ByteArray)).bind fun t131 => (if t131.toList = ([] : List UInt8) then (some (a0,t131,0,0)) else (if (mx a2 (wrap64 (-(wrap64 (a2 + 1))))) < 1099511627776 then ((decimal_Right.f a0 t131 (wrap64 (a2 + (wrap64 ((t130.size : Int) - (t131.size : Int)))))).bind fun t133 => (if t133 = true then (some (a0,t131,wrap64 (a2 + (wrap64 ((t130.size : Int) - (t131.size : Int)))),0)) else (some (false,(⟨#[]⟩ : ByteArray),0,2)))) else ((decimal_Right.f a0 t131 a2).bind fun t134 => (if t134 = true then (some (a0,t131,a2,0)) else (some (false,(⟨#[]⟩ : ByteArray),0,2)))))))) else (some (false,(⟨#[]⟩ : ByteArray),0,3)))) = some (r1,r2,r3,r4) := h
 clear h
 replace H := Option.bind_eq_some_iff.mp H
 obtain ⟨t129,A40,H⟩ := H
 replace H : (if t129 = true then ((strings_TrimLeft.f a1 (⟨#[48]⟩ : ByteArray)).bind fun t130 => ((strings_TrimRight.f t130 (⟨#[48]⟩ : ByteArray)).bind fun t131 => (if t131.toList = ([] : List UInt8) then (some (a0,t131,0,0)) else (if (mx a2 (wrap64 (-(wrap64 (a2 + 1))))) < 1099511627776 then ((decimal_Right.f a0 t131 (wrap64 (a2 + (wrap64 ((t130.size : Int) - (t131.size : Int)))))).bind fun t133 => (if t133 = true then (some (a0,t131,wrap64 (a2 + (wrap64 ((t130.size : Int) - (t131.size : Int)))),0)) else (some (false,(⟨#[]⟩ : ByteArray),0,2)))) else ((decimal_Right.f a0 t131 a2).bind fun t134 => (if t134 = true then (some (a0,t131,a2,0)) else (some (false,(⟨#[]⟩ : ByteArray),0,2)))))))) else (some (false,(⟨#[]⟩ : ByteArray),0,3))) = some (r1,r2,r3,r4) := H
 have A4 := Aside0.mk A40
 clear A40
 by_cases c5 : t129 = true
 ·subst c5
  have H1 : ((strings_TrimLeft.f a1 (⟨#[48]⟩ : ByteArray)).bind fun t130 => ((strings_TrimRight.f t130 (⟨#[48]⟩ : ByteArray)).bind fun t131 => (if t131.toList = ([] : List UInt8) then (some (a0,t131,0,0)) else (if (mx a2 (wrap64 (-(wrap64 (a2 + 1))))) < 1099511627776 then ((decimal_Right.f a0 t131 (wrap64 (a2 + (wrap64 ((t130.size : Int) - (t131.size : Int)))))).bind fun t133 => (if t133 = true then (some (a0,t131,wrap64 (a2 + (wrap64 ((t130.size : Int) - (t131.size : Int)))),0)) else (some (false,(⟨#[]⟩ : ByteArray),0,2)))) else ((decimal_Right.f a0 t131 a2).bind fun t134 => (if t134 = true then (some (a0,t131,a2,0)) else (some (false,(⟨#[]⟩ : ByteArray),0,2)))))))) = some (r1,r2,r3,r4) := by rw [if_pos rfl] at H;exact H
  clear H
  have H := H1
  clear H1
  replace H := Option.bind_eq_some_iff.mp H
  obtain ⟨t130,A60,H⟩ := H
  replace H : ((strings_TrimRight.f t130 (⟨#[48]⟩ : ByteArray)).bind fun t131 => (if t131.toList = ([] : List UInt8) then (some (a0,t131,0,0)) else (if (mx a2 (wrap64 (-(wrap64 (a2 + 1))))) < 1099511627776 then ((decimal_Right.f a0 t131 (wrap64 (a2 + (wrap64 ((t130.size : Int) - (t131.size : Int)))))).bind fun t133 => (if t133 = true then (some (a0,t131,wrap64 (a2 + (wrap64 ((t130.size : Int) - (t131.size : Int)))),0)) else (some (false,(⟨#[]⟩ : ByteArray),0,2)))) else ((decimal_Right.f a0 t131 a2).bind fun t134 => (if t134 = true then (some (a0,t131,a2,0)) else (some (false,(⟨#[]⟩ : ByteArray),0,2))))))) = some (r1,r2,r3,r4) := H
  have A6 := Aside0.mk A60
  clear A60
  replace H := Option.bind_eq_some_iff.mp H
  obtain ⟨t131,A70,H⟩ := H
  replace H : (if t131.toList = ([] : List UInt8) then (some (a0,t131,0,0)) else (if (mx a2 (wrap64 (-(wrap64 (a2 + 1))))) < 1099511627776 then ((decimal_Right.f a0 t131 (wrap64 (a2 + (wrap64 ((t130.size : Int) - (t131.size : Int)))))).bind fun t133 => (if t133 = true then (some (a0,t131,wrap64 (a2 + (wrap64 ((t130.size : Int) - (t131.size : Int)))),0)) else (some (false,(⟨#[]⟩ : ByteArray),0,2)))) else ((decimal_Right.f a0 t131 a2).bind fun t134 => (if t134 = true then (some (a0,t131,a2,0)) else (some (false,(⟨#[]⟩ : ByteArray),0,2)))))) = some (r1,r2,r3,r4) := H
  have A7 := Aside0.mk A70
  clear A70
  by_cases c8 : t131.toList = ([] : List UInt8)
  ·rw [if_pos c8] at H
   have c8b0 : (t131.toList == ([] : List UInt8)) = true := beq_iff_eq.mpr c8
   have c8b1 : (t131.toList != ([] : List UInt8)) = false := bne_eq_false_iff_eq.mpr c8
   clear c8
   simp only [Option.some.injEq,Prod.mk.injEq] at H
   obtain ⟨rfl,rfl,rfl,rfl⟩ := H
   go_enter Tryz.func5,Tryz.ntmps5
   go_wp2_with (first | ((with_reducible refine gate_dst (N := 6) rfl ?_);refine box_event ?hg (N := 6) ?hd (cs := #[.bool false,.string (⟨#[]⟩ : ByteArray),.int .i64 0]) (t := 23) ?hr ?_;(case hd => rfl);(case hg => rfl);(case hr => first | (go_simp;done) | (go_simp;rfl));intro gb128 hg w9 hbox hb;have n0_ := Aside0.mk (below_step (by repeat (first | (with_reducible first | exact HB.out | apply below_alloc | apply pw_below_drewN | apply below_drew1) | exact HB.out)) hb);have n1_ := Aside0.mk (hbox);have n2_ := Aside0.mk ((by rw [hg];exact (below_size (by repeat (first | (with_reducible first | exact HB.out | apply below_alloc | apply pw_below_drewN | apply below_drew1) | exact HB.out))) : w.heap.size ≤ gb128));have n3_ := Aside0.mk ((by rw [hg];exact (below_size (by repeat (first | (with_reducible first | exact HB.out | apply below_alloc | apply pw_below_drewN | apply below_drew1) | exact HB.out))) : w.heap.size ≤ gb128));clear HB;have HB := n0_;have BK128 := n1_;have GW128 := n2_;have GE128 := n3_;clear n0_ n1_ n2_ n3_;clear hb hbox hg) | ((with_reducible refine gate_callee (f := 18) rfl ?_);refine goesL_ (some 11) rfl rfl Tryz.func18 (by kernel_rfl) rfl #[.string a1] rfl (by (try simp only [List.map_toArray,List.map_cons,List.map_nil]);first | done | rfl | (simp only [List.length_drop,List.length_take];rfl)) ?_;(with_reducible refine (decimal_plain.calls a1 true _ A4.out).mono ?_);rintro e w10 ⟨rfl,hb⟩;refine ⟨_,rfl,?_⟩;have n0_ := Aside0.mk (blk_below (g := gb128) (o := .cells #[.bool false,.string (⟨#[]⟩ : ByteArray),.int .i64 0] 23 (0,0)) (by (with_reducible repeat (first | refine blk_drewN ?_ _ | refine blk_drew ?_ | refine blk_alloc ?_ _));exact BK128.out) hb);have n1_ := Aside0.mk (below_step (by repeat (first | (with_reducible first | exact HB.out | apply below_alloc | apply pw_below_drewN | apply below_drew1 | refine below_set ?_ GE128.out) | exact HB.out)) hb);clear BK128;clear HB;have BK128 := n0_;have HB := n1_;clear n0_ n1_;(try clear hb);(try clear hb2);(try clear hk);(try clear hi)) | ((with_reducible refine gate_callee (f := 19) rfl ?_);refine goesL_ (some 15) rfl rfl Tryz.func19 (by kernel_rfl) rfl #[.string a1,.string (⟨#[48]⟩ : ByteArray)] rfl (by (try simp only [List.map_toArray,List.map_cons,List.map_nil]);first | done | rfl | (simp only [List.length_drop,List.length_take];rfl)) ?_;(with_reducible refine (strings_TrimLeft.calls a1 (⟨#[48]⟩ : ByteArray) t130 _ A6.out).mono ?_);rintro e w11 ⟨rfl,hb⟩;refine ⟨_,rfl,?_⟩;have n0_ := Aside0.mk (blk_below (g := gb128) (o := .cells #[.bool false,.string (⟨#[]⟩ : ByteArray),.int .i64 0] 23 (0,0)) (by (with_reducible repeat (first | refine blk_drewN ?_ _ | refine blk_drew ?_ | refine blk_alloc ?_ _));exact BK128.out) hb);have n1_ := Aside0.mk (below_step (by repeat (first | (with_reducible first | exact HB.out | apply below_alloc | apply pw_below_drewN | apply below_drew1 | refine below_set ?_ GE128.out) | exact HB.out)) hb);clear BK128;clear HB;have BK128 := n0_;have HB := n1_;clear n0_ n1_;(try clear hb);(try clear hb2);(try clear hk);(try clear hi)) | ((with_reducible refine gate_callee (f := 20) rfl ?_);refine goesL_ (some 18) rfl rfl Tryz.func20 (by kernel_rfl) rfl #[.string t130,.string (⟨#[48]⟩ : ByteArray)] rfl (by (try simp only [List.map_toArray,List.map_cons,List.map_nil]);first | done | rfl | (simp only [List.length_drop,List.length_take];rfl)) ?_;(with_reducible refine (strings_TrimRight.calls t130 (⟨#[48]⟩ : ByteArray) t131 _ A7.out).mono ?_);rintro e w12 ⟨rfl,hb⟩;refine ⟨_,rfl,?_⟩;have n0_ := Aside0.mk (blk_below (g := gb128) (o := .cells #[.bool false,.string (⟨#[]⟩ : ByteArray),.int .i64 0] 23 (0,0)) (by (with_reducible repeat (first | refine blk_drewN ?_ _ | refine blk_drew ?_ | refine blk_alloc ?_ _));exact BK128.out) hb);have n1_ := Aside0.mk (below_step (by repeat (first | (with_reducible first | exact HB.out | apply below_alloc | apply pw_below_drewN | apply below_drew1 | refine below_set ?_ GE128.out) | exact HB.out)) hb);clear BK128;clear HB;have BK128 := n0_;have HB := n1_;clear n0_ n1_;(try clear hb);(try clear hb2);(try clear hk);(try clear hi)) | ((with_reducible refine gate_dst (N := 9) rfl ?_);refine box_event ?hg (N := 9) ?hd (cs := #[.bool false,.string (⟨#[]⟩ : ByteArray),.int .i64 0]) (t := 23) ?hr ?_;(case hd => rfl);(case hg => rfl);(case hr => first | (go_simp;done) | (go_simp;rfl));intro gb132 hg w13 hbox hb;have n0_ := Aside0.mk (blk_below (g := gb128) (o := .cells #[.bool false,.string (⟨#[]⟩ : ByteArray),.int .i64 0] 23 (0,0)) (by (with_reducible repeat (first | refine blk_drewN ?_ _ | refine blk_drew ?_ | refine blk_alloc ?_ _));exact BK128.out) hb);have n1_ := Aside0.mk (below_step (by repeat (first | (with_reducible first | exact HB.out | apply below_alloc | apply pw_below_drewN | apply below_drew1 | refine below_set ?_ GE128.out) | exact HB.out)) hb);have n2_ := Aside0.mk (hbox);have n3_ := Aside0.mk ((by rw [hg];exact (below_size (by repeat (first | (with_reducible first | exact HB.out | apply below_alloc | apply pw_below_drewN | apply below_drew1 | refine below_set ?_ GE128.out) | exact HB.out))) : w.heap.size ≤ gb132));have n4_ := Aside0.mk ((by rw [hg];exact (below_size (by repeat (first | (with_reducible first | exact HB.out | apply below_alloc | apply pw_below_drewN | apply below_drew1 | refine below_set ?_ GE128.out) | exact HB.out))) : w.heap.size ≤ gb132));have n5_ := Aside0.mk ((by rw [hg];exact Nat.ne_of_lt (blk_lt (g := gb128) (o := .cells #[.bool false,.string (⟨#[]⟩ : ByteArray),.int .i64 0] 23 (0,0)) (by (with_reducible repeat (first | refine blk_drewN ?_ _ | refine blk_drew ?_ | refine blk_alloc ?_ _));exact BK128.out)) : gb128 ≠ gb132));have n6_ := Aside0.mk ((by rw [hg];exact Nat.ne_of_gt (blk_lt (g := gb128) (o := .cells #[.bool false,.string (⟨#[]⟩ : ByteArray),.int .i64 0] 23 (0,0)) (by (with_reducible repeat (first | refine blk_drewN ?_ _ | refine blk_drew ?_ | refine blk_alloc ?_ _));exact BK128.out)) : gb132 ≠ gb128));clear BK128;clear HB;have BK128 := n0_;have HB := n1_;have BK132 := n2_;have GW132 := n3_;have GE132 := n4_;have NB128_132 := n5_;have NB132_128 := n6_;clear n0_ n1_ n2_ n3_ n4_ n5_ n6_;clear hb hbox hg;have hnb14 := NB132_128.out;have hnc14 := NB128_132.out;have hcz15_0 : w13.cell? ⟨gb132,0,none⟩ = some (.bool false) := (blk_cell BK132.out 0).trans rfl;have hcz15_1 : w13.cell? ⟨gb132,1,none⟩ = some (.string (⟨#[]⟩ : ByteArray)) := (blk_cell BK132.out 1).trans rfl;have hcz15_2 : w13.cell? ⟨gb132,2,none⟩ = some (.int .i64 0) := (blk_cell BK132.out 2).trans rfl;have hfz15_0 := blk_frozen BK132.out 0;have hfz15_1 := blk_frozen BK132.out 1;have hfz15_2 := blk_frozen BK132.out 2;have hcz16_0 : w13.cell? ⟨gb128,0,none⟩ = some (.bool false) := (blk_cell BK128.out 0).trans rfl;have hcz16_1 : w13.cell? ⟨gb128,1,none⟩ = some (.string (⟨#[]⟩ : ByteArray)) := (blk_cell BK128.out 1).trans rfl;have hcz16_2 : w13.cell? ⟨gb128,2,none⟩ = some (.int .i64 0) := (blk_cell BK128.out 2).trans rfl;have hfz16_0 := blk_frozen BK128.out 0;have hfz16_1 := blk_frozen BK128.out 1;have hfz16_2 := blk_frozen BK128.out 2))
   refine bodyPost_ret (results_ct rfl _ _ gb128 23 #[.bool a0,.string t131,.int .i64 0] (0,0) _ rfl (by (with_reducible repeat (first | refine blk_drewN ?_ _ | refine blk_drew ?_ | refine blk_alloc ?_ _));refine blk_put (cs := #[.bool a0,.string t131,.int .i64 0]) ?_ 2 _ rfl;(with_reducible repeat (first | refine blk_drewN ?_ _ | refine blk_drew ?_ | refine blk_alloc ?_ _));refine blk_put (cs := #[.bool a0,.string (⟨#[]⟩ : ByteArray),.int .i64 0]) ?_ 1 _ rfl;(with_reducible repeat (first | refine blk_drewN ?_ _ | refine blk_drew ?_ | refine blk_alloc ?_ _));refine blk_put (cs := #[.bool false,.string (⟨#[]⟩ : ByteArray),.int .i64 0]) ?_ 0 _ rfl;(with_reducible repeat (first | refine blk_drewN ?_ _ | refine blk_drew ?_ | refine blk_alloc ?_ _));refine blk_far ?_ NB128_132.out _;(with_reducible repeat (first | refine blk_drewN ?_ _ | refine blk_drew ?_ | refine blk_alloc ?_ _));refine blk_far ?_ NB128_132.out _;(with_reducible repeat (first | refine blk_drewN ?_ _ | refine blk_drew ?_ | refine blk_alloc ?_ _));refine blk_far ?_ NB128_132.out _;(with_reducible repeat (first | refine blk_drewN ?_ _ | refine blk_drew ?_ | refine blk_alloc ?_ _));exact BK128.out) Tryz.underlying23 rfl (by kernel_rfl)) rfl ?_
   exact ⟨by first | rfl | (simp [errW_none,errW_some] <;> rfl) | (simp [*,errW_none,errW_some] <;> rfl),by repeat (first | (with_reducible first | exact HB.out | apply below_alloc | apply pw_below_drewN | apply below_drew1 | refine below_set ?_ GE128.out | refine below_set ?_ GE132.out) | exact HB.out)⟩
  ·rw [if_neg c8] at H
   have c8b0 : (t131.toList == ([] : List UInt8)) = false := beq_eq_false_iff_ne.mpr c8
   have c8b1 : (t131.toList != ([] : List UInt8)) = true := bne_iff_ne.mpr c8
   obtain ⟨ji17,hji17⟩ : ∃ j_ : Int,(mx a2 (wrap64 (-(wrap64 (a2 + 1))))) = j_ := ⟨_,rfl⟩
   replace H : (if (ji17) < 1099511627776 then ((decimal_Right.f a0 t131 (wrap64 (a2 + (wrap64 ((t130.size : Int) - (t131.size : Int)))))).bind fun t133 => (if t133 = true then (some (a0,t131,wrap64 (a2 + (wrap64 ((t130.size : Int) - (t131.size : Int)))),0)) else (some (false,(⟨#[]⟩ : ByteArray),0,2)))) else ((decimal_Right.f a0 t131 a2).bind fun t134 => (if t134 = true then (some (a0,t131,a2,0)) else (some (false,(⟨#[]⟩ : ByteArray),0,2))))) = some (r1,r2,r3,r4) := by first | (rw [hji17] at H;exact H) | (simp only [hji17] at H ⊢;exact H)
   (try rw [hji17] at A4)
   (try rw [hji17] at A6)
   (try rw [hji17] at A7)
   have hji17_ : (if a2 < (wrap64 (-(wrap64 (a2 + 1)))) then (wrap64 (-(wrap64 (a2 + 1)))) else a2) = ji17 := hji17
   by_cases c18 : (ji17) < 1099511627776
   ·rw [if_pos c18] at H
    have c18b0 : decide ((ji17) < 1099511627776) = true := decide_eq_true c18
    clear c18
    replace H := Option.bind_eq_some_iff.mp H
    obtain ⟨t133,A190,H⟩ := H
    replace H : (if t133 = true then (some (a0,t131,wrap64 (a2 + (wrap64 ((t130.size : Int) - (t131.size : Int)))),0)) else (some (false,(⟨#[]⟩ : ByteArray),0,2))) = some (r1,r2,r3,r4) := H
    have A19 := Aside0.mk A190
    clear A190
    by_cases c20 : t133 = true
    ·subst c20
     have H1 : (some (a0,t131,wrap64 (a2 + (wrap64 ((t130.size : Int) - (t131.size : Int)))),0)) = some (r1,r2,r3,r4) := by rw [if_pos rfl] at H;exact H
     clear H
     have H := H1
     clear H1
     simp only [Option.some.injEq,Prod.mk.injEq] at H
     obtain ⟨rfl,rfl,rfl,rfl⟩ := H
     go_enter Tryz.func5,Tryz.ntmps5
     go_wp2_with (first | ((with_reducible refine gate_dst (N := 6) rfl ?_);refine box_event ?hg (N := 6) ?hd (cs := #[.bool false,.string (⟨#[]⟩ : ByteArray),.int .i64 0]) (t := 23) ?hr ?_;(case hd => rfl);(case hg => rfl);(case hr => first | (go_simp;done) | (go_simp;rfl));intro gb128 hg w21 hbox hb;have n0_ := Aside0.mk (below_step (by repeat (first | (with_reducible first | exact HB.out | apply below_alloc | apply pw_below_drewN | apply below_drew1) | exact HB.out)) hb);have n1_ := Aside0.mk (hbox);have n2_ := Aside0.mk ((by rw [hg];exact (below_size (by repeat (first | (with_reducible first | exact HB.out | apply below_alloc | apply pw_below_drewN | apply below_drew1) | exact HB.out))) : w.heap.size ≤ gb128));have n3_ := Aside0.mk ((by rw [hg];exact (below_size (by repeat (first | (with_reducible first | exact HB.out | apply below_alloc | apply pw_below_drewN | apply below_drew1) | exact HB.out))) : w.heap.size ≤ gb128));clear HB;have HB := n0_;have BK128 := n1_;have GW128 := n2_;have GE128 := n3_;clear n0_ n1_ n2_ n3_;clear hb hbox hg) | ((with_reducible refine gate_callee (f := 18) rfl ?_);refine goesL_ (some 11) rfl rfl Tryz.func18 (by kernel_rfl) rfl #[.string a1] rfl (by (try simp only [List.map_toArray,List.map_cons,List.map_nil]);first | done | rfl | (simp only [List.length_drop,List.length_take];rfl)) ?_;(with_reducible refine (decimal_plain.calls a1 true _ A4.out).mono ?_);rintro e w22 ⟨rfl,hb⟩;refine ⟨_,rfl,?_⟩;have n0_ := Aside0.mk (blk_below (g := gb128) (o := .cells #[.bool false,.string (⟨#[]⟩ : ByteArray),.int .i64 0] 23 (0,0)) (by (with_reducible repeat (first | refine blk_drewN ?_ _ | refine blk_drew ?_ | refine blk_alloc ?_ _));exact BK128.out) hb);have n1_ := Aside0.mk (below_step (by repeat (first | (with_reducible first | exact HB.out | apply below_alloc | apply pw_below_drewN | apply below_drew1 | refine below_set ?_ GE128.out) | exact HB.out)) hb);clear BK128;clear HB;have BK128 := n0_;have HB := n1_;clear n0_ n1_;(try clear hb);(try clear hb2);(try clear hk);(try clear hi)) | ((with_reducible refine gate_callee (f := 19) rfl ?_);refine goesL_ (some 15) rfl rfl Tryz.func19 (by kernel_rfl) rfl #[.string a1,.string (⟨#[48]⟩ : ByteArray)] rfl (by (try simp only [List.map_toArray,List.map_cons,List.map_nil]);first | done | rfl | (simp only [List.length_drop,List.length_take];rfl)) ?_;(with_reducible refine (strings_TrimLeft.calls a1 (⟨#[48]⟩ : ByteArray) t130 _ A6.out).mono ?_);rintro e w23 ⟨rfl,hb⟩;refine ⟨_,rfl,?_⟩;have n0_ := Aside0.mk (blk_below (g := gb128) (o := .cells #[.bool false,.string (⟨#[]⟩ : ByteArray),.int .i64 0] 23 (0,0)) (by (with_reducible repeat (first | refine blk_drewN ?_ _ | refine blk_drew ?_ | refine blk_alloc ?_ _));exact BK128.out) hb);have n1_ := Aside0.mk (below_step (by repeat (first | (with_reducible first | exact HB.out | apply below_alloc | apply pw_below_drewN | apply below_drew1 | refine below_set ?_ GE128.out) | exact HB.out)) hb);clear BK128;clear HB;have BK128 := n0_;have HB := n1_;clear n0_ n1_;(try clear hb);(try clear hb2);(try clear hk);(try clear hi)) | ((with_reducible refine gate_callee (f := 20) rfl ?_);refine goesL_ (some 18) rfl rfl Tryz.func20 (by kernel_rfl) rfl #[.string t130,.string (⟨#[48]⟩ : ByteArray)] rfl (by (try simp only [List.map_toArray,List.map_cons,List.map_nil]);first | done | rfl | (simp only [List.length_drop,List.length_take];rfl)) ?_;(with_reducible refine (strings_TrimRight.calls t130 (⟨#[48]⟩ : ByteArray) t131 _ A7.out).mono ?_);rintro e w24 ⟨rfl,hb⟩;refine ⟨_,rfl,?_⟩;have n0_ := Aside0.mk (blk_below (g := gb128) (o := .cells #[.bool false,.string (⟨#[]⟩ : ByteArray),.int .i64 0] 23 (0,0)) (by (with_reducible repeat (first | refine blk_drewN ?_ _ | refine blk_drew ?_ | refine blk_alloc ?_ _));exact BK128.out) hb);have n1_ := Aside0.mk (below_step (by repeat (first | (with_reducible first | exact HB.out | apply below_alloc | apply pw_below_drewN | apply below_drew1 | refine below_set ?_ GE128.out) | exact HB.out)) hb);clear BK128;clear HB;have BK128 := n0_;have HB := n1_;clear n0_ n1_;(try clear hb);(try clear hb2);(try clear hk);(try clear hi)) | ((with_reducible refine gate_dst (N := 9) rfl ?_);refine box_event ?hg (N := 9) ?hd (cs := #[.bool false,.string (⟨#[]⟩ : ByteArray),.int .i64 0]) (t := 23) ?hr ?_;(case hd => rfl);(case hg => rfl);(case hr => first | (go_simp;done) | (go_simp;rfl));intro gb132 hg w25 hbox hb;have n0_ := Aside0.mk (blk_below (g := gb128) (o := .cells #[.bool false,.string (⟨#[]⟩ : ByteArray),.int .i64 0] 23 (0,0)) (by (with_reducible repeat (first | refine blk_drewN ?_ _ | refine blk_drew ?_ | refine blk_alloc ?_ _));exact BK128.out) hb);have n1_ := Aside0.mk (below_step (by repeat (first | (with_reducible first | exact HB.out | apply below_alloc | apply pw_below_drewN | apply below_drew1 | refine below_set ?_ GE128.out) | exact HB.out)) hb);have n2_ := Aside0.mk (hbox);have n3_ := Aside0.mk ((by rw [hg];exact (below_size (by repeat (first | (with_reducible first | exact HB.out | apply below_alloc | apply pw_below_drewN | apply below_drew1 | refine below_set ?_ GE128.out) | exact HB.out))) : w.heap.size ≤ gb132));have n4_ := Aside0.mk ((by rw [hg];exact (below_size (by repeat (first | (with_reducible first | exact HB.out | apply below_alloc | apply pw_below_drewN | apply below_drew1 | refine below_set ?_ GE128.out) | exact HB.out))) : w.heap.size ≤ gb132));have n5_ := Aside0.mk ((by rw [hg];exact Nat.ne_of_lt (blk_lt (g := gb128) (o := .cells #[.bool false,.string (⟨#[]⟩ : ByteArray),.int .i64 0] 23 (0,0)) (by (with_reducible repeat (first | refine blk_drewN ?_ _ | refine blk_drew ?_ | refine blk_alloc ?_ _));exact BK128.out)) : gb128 ≠ gb132));have n6_ := Aside0.mk ((by rw [hg];exact Nat.ne_of_gt (blk_lt (g := gb128) (o := .cells #[.bool false,.string (⟨#[]⟩ : ByteArray),.int .i64 0] 23 (0,0)) (by (with_reducible repeat (first | refine blk_drewN ?_ _ | refine blk_drew ?_ | refine blk_alloc ?_ _));exact BK128.out)) : gb132 ≠ gb128));clear BK128;clear HB;have BK128 := n0_;have HB := n1_;have BK132 := n2_;have GW132 := n3_;have GE132 := n4_;have NB128_132 := n5_;have NB132_128 := n6_;clear n0_ n1_ n2_ n3_ n4_ n5_ n6_;clear hb hbox hg;have hnb26 := NB132_128.out;have hnc26 := NB128_132.out;have hcz27_0 : w25.cell? ⟨gb132,0,none⟩ = some (.bool false) := (blk_cell BK132.out 0).trans rfl;have hcz27_1 : w25.cell? ⟨gb132,1,none⟩ = some (.string (⟨#[]⟩ : ByteArray)) := (blk_cell BK132.out 1).trans rfl;have hcz27_2 : w25.cell? ⟨gb132,2,none⟩ = some (.int .i64 0) := (blk_cell BK132.out 2).trans rfl;have hfz27_0 := blk_frozen BK132.out 0;have hfz27_1 := blk_frozen BK132.out 1;have hfz27_2 := blk_frozen BK132.out 2) | ((with_reducible refine gate_callee (f := 7) rfl ?_);refine goesL_ (some 43) rfl rfl Tryz.func7 (by kernel_rfl) rfl #[.agg #[.bool a0,.string t131,.int .i64 (wrap64 (a2 + (wrap64 ((t130.size : Int) - (t131.size : Int)))))]] rfl (by (try simp only [List.map_toArray,List.map_cons,List.map_nil]);first | done | rfl | (simp only [List.length_drop,List.length_take];rfl)) ?_;(with_reducible refine (decimal_Right.calls a0 t131 (wrap64 (a2 + (wrap64 ((t130.size : Int) - (t131.size : Int))))) true _ A19.out).mono ?_);rintro e w28 ⟨rfl,hb⟩;refine ⟨_,rfl,?_⟩;have n0_ := Aside0.mk (blk_below (g := gb128) (o := .cells #[.bool false,.string (⟨#[]⟩ : ByteArray),.int .i64 0] 23 (0,0)) (by (with_reducible repeat (first | refine blk_drewN ?_ _ | refine blk_drew ?_ | refine blk_alloc ?_ _));refine blk_far ?_ NB128_132.out _;(with_reducible repeat (first | refine blk_drewN ?_ _ | refine blk_drew ?_ | refine blk_alloc ?_ _));refine blk_far ?_ NB128_132.out _;(with_reducible repeat (first | refine blk_drewN ?_ _ | refine blk_drew ?_ | refine blk_alloc ?_ _));refine blk_far ?_ NB128_132.out _;(with_reducible repeat (first | refine blk_drewN ?_ _ | refine blk_drew ?_ | refine blk_alloc ?_ _));refine blk_far ?_ NB128_132.out _;(with_reducible repeat (first | refine blk_drewN ?_ _ | refine blk_drew ?_ | refine blk_alloc ?_ _));refine blk_far ?_ NB128_132.out _;(with_reducible repeat (first | refine blk_drewN ?_ _ | refine blk_drew ?_ | refine blk_alloc ?_ _));exact BK128.out) hb);have n1_ := Aside0.mk (blk_below (g := gb132) (o := .cells #[.bool a0,.string t131,.int .i64 (wrap64 (a2 + (wrap64 ((t130.size : Int) - (t131.size : Int)))))] 23 (0,0)) (by (with_reducible repeat (first | refine blk_drewN ?_ _ | refine blk_drew ?_ | refine blk_alloc ?_ _));refine blk_put (cs := #[.bool a0,.string t131,.int .i64 a2]) ?_ 2 _ rfl;(with_reducible repeat (first | refine blk_drewN ?_ _ | refine blk_drew ?_ | refine blk_alloc ?_ _));refine blk_put (cs := #[.bool a0,.string t131,.int .i64 0]) ?_ 2 _ rfl;(with_reducible repeat (first | refine blk_drewN ?_ _ | refine blk_drew ?_ | refine blk_alloc ?_ _));refine blk_put (cs := #[.bool a0,.string t131,.int .i64 0]) ?_ 2 _ rfl;(with_reducible repeat (first | refine blk_drewN ?_ _ | refine blk_drew ?_ | refine blk_alloc ?_ _));refine blk_put (cs := #[.bool a0,.string (⟨#[]⟩ : ByteArray),.int .i64 0]) ?_ 1 _ rfl;(with_reducible repeat (first | refine blk_drewN ?_ _ | refine blk_drew ?_ | refine blk_alloc ?_ _));refine blk_put (cs := #[.bool false,.string (⟨#[]⟩ : ByteArray),.int .i64 0]) ?_ 0 _ rfl;(with_reducible repeat (first | refine blk_drewN ?_ _ | refine blk_drew ?_ | refine blk_alloc ?_ _));exact BK132.out) hb);have n2_ := Aside0.mk (below_step (by repeat (first | (with_reducible first | exact HB.out | apply below_alloc | apply pw_below_drewN | apply below_drew1 | refine below_set ?_ GE128.out | refine below_set ?_ GE132.out) | exact HB.out)) hb);clear BK128;clear BK132;clear HB;have BK128 := n0_;have BK132 := n1_;have HB := n2_;clear n0_ n1_ n2_;(try clear hb);(try clear hb2);(try clear hk);(try clear hi);have hcz29_0 : w28.cell? ⟨gb132,0,none⟩ = some (.bool a0) := (blk_cell BK132.out 0).trans rfl;have hcz29_1 : w28.cell? ⟨gb132,1,none⟩ = some (.string t131) := (blk_cell BK132.out 1).trans rfl;have hcz29_2 : w28.cell? ⟨gb132,2,none⟩ = some (.int .i64 (wrap64 (a2 + (wrap64 ((t130.size : Int) - (t131.size : Int)))))) := (blk_cell BK132.out 2).trans rfl;have hfz29_0 := blk_frozen BK132.out 0;have hfz29_1 := blk_frozen BK132.out 1;have hfz29_2 := blk_frozen BK132.out 2;have hcz30_0 : w28.cell? ⟨gb128,0,none⟩ = some (.bool false) := (blk_cell BK128.out 0).trans rfl;have hcz30_1 : w28.cell? ⟨gb128,1,none⟩ = some (.string (⟨#[]⟩ : ByteArray)) := (blk_cell BK128.out 1).trans rfl;have hcz30_2 : w28.cell? ⟨gb128,2,none⟩ = some (.int .i64 0) := (blk_cell BK128.out 2).trans rfl;have hfz30_0 := blk_frozen BK128.out 0;have hfz30_1 := blk_frozen BK128.out 1;have hfz30_2 := blk_frozen BK128.out 2))
     refine bodyPost_ret (results_ct rfl _ _ gb128 23 #[.bool a0,.string t131,.int .i64 (wrap64 (a2 + (wrap64 ((t130.size : Int) - (t131.size : Int)))))] (0,0) _ rfl (by (with_reducible repeat (first | refine blk_drewN ?_ _ | refine blk_drew ?_ | refine blk_alloc ?_ _));refine blk_put (cs := #[.bool a0,.string t131,.int .i64 0]) ?_ 2 _ rfl;(with_reducible repeat (first | refine blk_drewN ?_ _ | refine blk_drew ?_ | refine blk_alloc ?_ _));refine blk_put (cs := #[.bool a0,.string (⟨#[]⟩ : ByteArray),.int .i64 0]) ?_ 1 _ rfl;(with_reducible repeat (first | refine blk_drewN ?_ _ | refine blk_drew ?_ | refine blk_alloc ?_ _));refine blk_put (cs := #[.bool false,.string (⟨#[]⟩ : ByteArray),.int .i64 0]) ?_ 0 _ rfl;(with_reducible repeat (first | refine blk_drewN ?_ _ | refine blk_drew ?_ | refine blk_alloc ?_ _));exact BK128.out) Tryz.underlying23 rfl (by kernel_rfl)) rfl ?_
     exact ⟨by first | rfl | (simp [errW_none,errW_some] <;> rfl) | (simp only [← hji17];first | rfl | (simp [errW_none,errW_some] <;> rfl)) | (simp [*,errW_none,errW_some] <;> rfl),by repeat (first | (with_reducible first | exact HB.out | apply below_alloc | apply pw_below_drewN | apply below_drew1 | refine below_set ?_ GE128.out | refine below_set ?_ GE132.out) | exact HB.out)⟩
    ·replace c20 := Bool.eq_false_iff.mpr c20
     subst c20
     have H1 : (some (false,(⟨#[]⟩ : ByteArray),0,2)) = some (r1,r2,r3,r4) := by rw [if_neg (show ¬ (false = true) by decide)] at H;exact H
     clear H
     have H := H1
     clear H1
     simp only [Option.some.injEq,Prod.mk.injEq] at H
     obtain ⟨rfl,rfl,rfl,rfl⟩ := H
     go_enter Tryz.func5,Tryz.ntmps5
     go_wp2_with (first | ((with_reducible refine gate_dst (N := 6) rfl ?_);refine box_event ?hg (N := 6) ?hd (cs := #[.bool false,.string (⟨#[]⟩ : ByteArray),.int .i64 0]) (t := 23) ?hr ?_;(case hd => rfl);(case hg => rfl);(case hr => first | (go_simp;done) | (go_simp;rfl));intro gb128 hg w31 hbox hb;have n0_ := Aside0.mk (below_step (by repeat (first | (with_reducible first | exact HB.out | apply below_alloc | apply pw_below_drewN | apply below_drew1) | exact HB.out)) hb);have n1_ := Aside0.mk (hbox);have n2_ := Aside0.mk ((by rw [hg];exact (below_size (by repeat (first | (with_reducible first | exact HB.out | apply below_alloc | apply pw_below_drewN | apply below_drew1) | exact HB.out))) : w.heap.size ≤ gb128));have n3_ := Aside0.mk ((by rw [hg];exact (below_size (by repeat (first | (with_reducible first | exact HB.out | apply below_alloc | apply pw_below_drewN | apply below_drew1) | exact HB.out))) : w.heap.size ≤ gb128));clear HB;have HB := n0_;have BK128 := n1_;have GW128 := n2_;have GE128 := n3_;clear n0_ n1_ n2_ n3_;clear hb hbox hg) | ((with_reducible refine gate_callee (f := 18) rfl ?_);refine goesL_ (some 11) rfl rfl Tryz.func18 (by kernel_rfl) rfl #[.string a1] rfl (by (try simp only [List.map_toArray,List.map_cons,List.map_nil]);first | done | rfl | (simp only [List.length_drop,List.length_take];rfl)) ?_;(with_reducible refine (decimal_plain.calls a1 true _ A4.out).mono ?_);rintro e w32 ⟨rfl,hb⟩;refine ⟨_,rfl,?_⟩;have n0_ := Aside0.mk (blk_below (g := gb128) (o := .cells #[.bool false,.string (⟨#[]⟩ : ByteArray),.int .i64 0] 23 (0,0)) (by (with_reducible repeat (first | refine blk_drewN ?_ _ | refine blk_drew ?_ | refine blk_alloc ?_ _));exact BK128.out) hb);have n1_ := Aside0.mk (below_step (by repeat (first | (with_reducible first | exact HB.out | apply below_alloc | apply pw_below_drewN | apply below_drew1 | refine below_set ?_ GE128.out) | exact HB.out)) hb);clear BK128;clear HB;have BK128 := n0_;have HB := n1_;clear n0_ n1_;(try clear hb);(try clear hb2);(try clear hk);(try clear hi)) | ((with_reducible refine gate_callee (f := 19) rfl ?_);refine goesL_ (some 15) rfl rfl Tryz.func19 (by kernel_rfl) rfl #[.string a1,.string (⟨#[48]⟩ : ByteArray)] rfl (by (try simp only [List.map_toArray,List.map_cons,List.map_nil]);first | done | rfl | (simp only [List.length_drop,List.length_take];rfl)) ?_;(with_reducible refine (strings_TrimLeft.calls a1 (⟨#[48]⟩ : ByteArray) t130 _ A6.out).mono ?_);rintro e w33 ⟨rfl,hb⟩;refine ⟨_,rfl,?_⟩;have n0_ := Aside0.mk (blk_below (g := gb128) (o := .cells #[.bool false,.string (⟨#[]⟩ : ByteArray),.int .i64 0] 23 (0,0)) (by (with_reducible repeat (first | refine blk_drewN ?_ _ | refine blk_drew ?_ | refine blk_alloc ?_ _));exact BK128.out) hb);have n1_ := Aside0.mk (below_step (by repeat (first | (with_reducible first | exact HB.out | apply below_alloc | apply pw_below_drewN | apply below_drew1 | refine below_set ?_ GE128.out) | exact HB.out)) hb);clear BK128;clear HB;have BK128 := n0_;have HB := n1_;clear n0_ n1_;(try clear hb);(try clear hb2);(try clear hk);(try clear hi)) | ((with_reducible refine gate_callee (f := 20) rfl ?_);refine goesL_ (some 18) rfl rfl Tryz.func20 (by kernel_rfl) rfl #[.string t130,.string (⟨#[48]⟩ : ByteArray)] rfl (by (try simp only [List.map_toArray,List.map_cons,List.map_nil]);first | done | rfl | (simp only [List.length_drop,List.length_take];rfl)) ?_;(with_reducible refine (strings_TrimRight.calls t130 (⟨#[48]⟩ : ByteArray) t131 _ A7.out).mono ?_);rintro e w34 ⟨rfl,hb⟩;refine ⟨_,rfl,?_⟩;have n0_ := Aside0.mk (blk_below (g := gb128) (o := .cells #[.bool false,.string (⟨#[]⟩ : ByteArray),.int .i64 0] 23 (0,0)) (by (with_reducible repeat (first | refine blk_drewN ?_ _ | refine blk_drew ?_ | refine blk_alloc ?_ _));exact BK128.out) hb);have n1_ := Aside0.mk (below_step (by repeat (first | (with_reducible first | exact HB.out | apply below_alloc | apply pw_below_drewN | apply below_drew1 | refine below_set ?_ GE128.out) | exact HB.out)) hb);clear BK128;clear HB;have BK128 := n0_;have HB := n1_;clear n0_ n1_;(try clear hb);(try clear hb2);(try clear hk);(try clear hi)) | ((with_reducible refine gate_dst (N := 9) rfl ?_);refine box_event ?hg (N := 9) ?hd (cs := #[.bool false,.string (⟨#[]⟩ : ByteArray),.int .i64 0]) (t := 23) ?hr ?_;(case hd => rfl);(case hg => rfl);(case hr => first | (go_simp;done) | (go_simp;rfl));intro gb132 hg w35 hbox hb;have n0_ := Aside0.mk (blk_below (g := gb128) (o := .cells #[.bool false,.string (⟨#[]⟩ : ByteArray),.int .i64 0] 23 (0,0)) (by (with_reducible repeat (first | refine blk_drewN ?_ _ | refine blk_drew ?_ | refine blk_alloc ?_ _));exact BK128.out) hb);have n1_ := Aside0.mk (below_step (by repeat (first | (with_reducible first | exact HB.out | apply below_alloc | apply pw_below_drewN | apply below_drew1 | refine below_set ?_ GE128.out) | exact HB.out)) hb);have n2_ := Aside0.mk (hbox);have n3_ := Aside0.mk ((by rw [hg];exact (below_size (by repeat (first | (with_reducible first | exact HB.out | apply below_alloc | apply pw_below_drewN | apply below_drew1 | refine below_set ?_ GE128.out) | exact HB.out))) : w.heap.size ≤ gb132));have n4_ := Aside0.mk ((by rw [hg];exact (below_size (by repeat (first | (with_reducible first | exact HB.out | apply below_alloc | apply pw_below_drewN | apply below_drew1 | refine below_set ?_ GE128.out) | exact HB.out))) : w.heap.size ≤ gb132));have n5_ := Aside0.mk ((by rw [hg];exact Nat.ne_of_lt (blk_lt (g := gb128) (o := .cells #[.bool false,.string (⟨#[]⟩ : ByteArray),.int .i64 0] 23 (0,0)) (by (with_reducible repeat (first | refine blk_drewN ?_ _ | refine blk_drew ?_ | refine blk_alloc ?_ _));exact BK128.out)) : gb128 ≠ gb132));have n6_ := Aside0.mk ((by rw [hg];exact Nat.ne_of_gt (blk_lt (g := gb128) (o := .cells #[.bool false,.string (⟨#[]⟩ : ByteArray),.int .i64 0] 23 (0,0)) (by (with_reducible repeat (first | refine blk_drewN ?_ _ | refine blk_drew ?_ | refine blk_alloc ?_ _));exact BK128.out)) : gb132 ≠ gb128));clear BK128;clear HB;have BK128 := n0_;have HB := n1_;have BK132 := n2_;have GW132 := n3_;have GE132 := n4_;have NB128_132 := n5_;have NB132_128 := n6_;clear n0_ n1_ n2_ n3_ n4_ n5_ n6_;clear hb hbox hg;have hnb36 := NB132_128.out;have hnc36 := NB128_132.out;have hcz37_0 : w35.cell? ⟨gb132,0,none⟩ = some (.bool false) := (blk_cell BK132.out 0).trans rfl;have hcz37_1 : w35.cell? ⟨gb132,1,none⟩ = some (.string (⟨#[]⟩ : ByteArray)) := (blk_cell BK132.out 1).trans rfl;have hcz37_2 : w35.cell? ⟨gb132,2,none⟩ = some (.int .i64 0) := (blk_cell BK132.out 2).trans rfl;have hfz37_0 := blk_frozen BK132.out 0;have hfz37_1 := blk_frozen BK132.out 1;have hfz37_2 := blk_frozen BK132.out 2) | ((with_reducible refine gate_callee (f := 7) rfl ?_);refine goesL_ (some 43) rfl rfl Tryz.func7 (by kernel_rfl) rfl #[.agg #[.bool a0,.string t131,.int .i64 (wrap64 (a2 + (wrap64 ((t130.size : Int) - (t131.size : Int)))))]] rfl (by (try simp only [List.map_toArray,List.map_cons,List.map_nil]);first | done | rfl | (simp only [List.length_drop,List.length_take];rfl)) ?_;(with_reducible refine (decimal_Right.calls a0 t131 (wrap64 (a2 + (wrap64 ((t130.size : Int) - (t131.size : Int))))) false _ A19.out).mono ?_);rintro e w38 ⟨rfl,hb⟩;refine ⟨_,rfl,?_⟩;have n0_ := Aside0.mk (blk_below (g := gb128) (o := .cells #[.bool false,.string (⟨#[]⟩ : ByteArray),.int .i64 0] 23 (0,0)) (by (with_reducible repeat (first | refine blk_drewN ?_ _ | refine blk_drew ?_ | refine blk_alloc ?_ _));refine blk_far ?_ NB128_132.out _;(with_reducible repeat (first | refine blk_drewN ?_ _ | refine blk_drew ?_ | refine blk_alloc ?_ _));refine blk_far ?_ NB128_132.out _;(with_reducible repeat (first | refine blk_drewN ?_ _ | refine blk_drew ?_ | refine blk_alloc ?_ _));refine blk_far ?_ NB128_132.out _;(with_reducible repeat (first | refine blk_drewN ?_ _ | refine blk_drew ?_ | refine blk_alloc ?_ _));refine blk_far ?_ NB128_132.out _;(with_reducible repeat (first | refine blk_drewN ?_ _ | refine blk_drew ?_ | refine blk_alloc ?_ _));refine blk_far ?_ NB128_132.out _;(with_reducible repeat (first | refine blk_drewN ?_ _ | refine blk_drew ?_ | refine blk_alloc ?_ _));exact BK128.out) hb);have n1_ := Aside0.mk (blk_below (g := gb132) (o := .cells #[.bool a0,.string t131,.int .i64 (wrap64 (a2 + (wrap64 ((t130.size : Int) - (t131.size : Int)))))] 23 (0,0)) (by (with_reducible repeat (first | refine blk_drewN ?_ _ | refine blk_drew ?_ | refine blk_alloc ?_ _));refine blk_put (cs := #[.bool a0,.string t131,.int .i64 a2]) ?_ 2 _ rfl;(with_reducible repeat (first | refine blk_drewN ?_ _ | refine blk_drew ?_ | refine blk_alloc ?_ _));refine blk_put (cs := #[.bool a0,.string t131,.int .i64 0]) ?_ 2 _ rfl;(with_reducible repeat (first | refine blk_drewN ?_ _ | refine blk_drew ?_ | refine blk_alloc ?_ _));refine blk_put (cs := #[.bool a0,.string t131,.int .i64 0]) ?_ 2 _ rfl;(with_reducible repeat (first | refine blk_drewN ?_ _ | refine blk_drew ?_ | refine blk_alloc ?_ _));refine blk_put (cs := #[.bool a0,.string (⟨#[]⟩ : ByteArray),.int .i64 0]) ?_ 1 _ rfl;(with_reducible repeat (first | refine blk_drewN ?_ _ | refine blk_drew ?_ | refine blk_alloc ?_ _));refine blk_put (cs := #[.bool false,.string (⟨#[]⟩ : ByteArray),.int .i64 0]) ?_ 0 _ rfl;(with_reducible repeat (first | refine blk_drewN ?_ _ | refine blk_drew ?_ | refine blk_alloc ?_ _));exact BK132.out) hb);have n2_ := Aside0.mk (below_step (by repeat (first | (with_reducible first | exact HB.out | apply below_alloc | apply pw_below_drewN | apply below_drew1 | refine below_set ?_ GE128.out | refine below_set ?_ GE132.out) | exact HB.out)) hb);clear BK128;clear BK132;clear HB;have BK128 := n0_;have BK132 := n1_;have HB := n2_;clear n0_ n1_ n2_;(try clear hb);(try clear hb2);(try clear hk);(try clear hi);have hcz39_0 : w38.cell? ⟨gb128,0,none⟩ = some (.bool false) := (blk_cell BK128.out 0).trans rfl;have hcz39_1 : w38.cell? ⟨gb128,1,none⟩ = some (.string (⟨#[]⟩ : ByteArray)) := (blk_cell BK128.out 1).trans rfl;have hcz39_2 : w38.cell? ⟨gb128,2,none⟩ = some (.int .i64 0) := (blk_cell BK128.out 2).trans rfl;have hfz39_0 := blk_frozen BK128.out 0;have hfz39_1 := blk_frozen BK128.out 1;have hfz39_2 := blk_frozen BK128.out 2))
     refine bodyPost_ret (results_ct rfl _ _ gb128 23 #[.bool false,.string (⟨#[]⟩ : ByteArray),.int .i64 0] (0,0) _ rfl (by (with_reducible repeat (first | refine blk_drewN ?_ _ | refine blk_drew ?_ | refine blk_alloc ?_ _));refine blk_put (cs := #[.bool false,.string (⟨#[]⟩ : ByteArray),.int .i64 0]) ?_ 2 _ rfl;(with_reducible repeat (first | refine blk_drewN ?_ _ | refine blk_drew ?_ | refine blk_alloc ?_ _));refine blk_put (cs := #[.bool false,.string (⟨#[]⟩ : ByteArray),.int .i64 0]) ?_ 1 _ rfl;(with_reducible repeat (first | refine blk_drewN ?_ _ | refine blk_drew ?_ | refine blk_alloc ?_ _));refine blk_put (cs := #[.bool false,.string (⟨#[]⟩ : ByteArray),.int .i64 0]) ?_ 0 _ rfl;(with_reducible repeat (first | refine blk_drewN ?_ _ | refine blk_drew ?_ | refine blk_alloc ?_ _));exact BK128.out) Tryz.underlying23 rfl (by kernel_rfl)) rfl ?_
     exact ⟨by first | rfl | (simp [errW_none,errW_some] <;> rfl) | (simp only [← hji17];first | rfl | (simp [errW_none,errW_some] <;> rfl)) | (simp [*,errW_none,errW_some] <;> rfl),by repeat (first | (with_reducible first | exact HB.out | apply below_alloc | apply pw_below_drewN | apply below_drew1 | refine below_set ?_ GE128.out | refine below_set ?_ GE132.out) | exact HB.out)⟩
   ·rw [if_neg c18] at H
    have c18b0 : decide ((ji17) < 1099511627776) = false := decide_eq_false c18
    clear c18
    replace H := Option.bind_eq_some_iff.mp H
    obtain ⟨t134,A400,H⟩ := H
    replace H : (if t134 = true then (some (a0,t131,a2,0)) else (some (false,(⟨#[]⟩ : ByteArray),0,2))) = some (r1,r2,r3,r4) := H
    have A40 := Aside0.mk A400
    clear A400
    by_cases c41 : t134 = true
    ·subst c41
     have H1 : (some (a0,t131,a2,0)) = some (r1,r2,r3,r4) := by rw [if_pos rfl] at H;exact H
     clear H
     have H := H1
     clear H1
     simp only [Option.some.injEq,Prod.mk.injEq] at H
     obtain ⟨rfl,rfl,rfl,rfl⟩ := H
     go_enter Tryz.func5,Tryz.ntmps5
     go_wp2_with (first | ((with_reducible refine gate_dst (N := 6) rfl ?_);refine box_event ?hg (N := 6) ?hd (cs := #[.bool false,.string (⟨#[]⟩ : ByteArray),.int .i64 0]) (t := 23) ?hr ?_;(case hd => rfl);(case hg => rfl);(case hr => first | (go_simp;done) | (go_simp;rfl));intro gb128 hg w42 hbox hb;have n0_ := Aside0.mk (below_step (by repeat (first | (with_reducible first | exact HB.out | apply below_alloc | apply pw_below_drewN | apply below_drew1) | exact HB.out)) hb);have n1_ := Aside0.mk (hbox);have n2_ := Aside0.mk ((by rw [hg];exact (below_size (by repeat (first | (with_reducible first | exact HB.out | apply below_alloc | apply pw_below_drewN | apply below_drew1) | exact HB.out))) : w.heap.size ≤ gb128));have n3_ := Aside0.mk ((by rw [hg];exact (below_size (by repeat (first | (with_reducible first | exact HB.out | apply below_alloc | apply pw_below_drewN | apply below_drew1) | exact HB.out))) : w.heap.size ≤ gb128));clear HB;have HB := n0_;have BK128 := n1_;have GW128 := n2_;have GE128 := n3_;clear n0_ n1_ n2_ n3_;clear hb hbox hg) | ((with_reducible refine gate_callee (f := 18) rfl ?_);refine goesL_ (some 11) rfl rfl Tryz.func18 (by kernel_rfl) rfl #[.string a1] rfl (by (try simp only [List.map_toArray,List.map_cons,List.map_nil]);first | done | rfl | (simp only [List.length_drop,List.length_take];rfl)) ?_;(with_reducible refine (decimal_plain.calls a1 true _ A4.out).mono ?_);rintro e w43 ⟨rfl,hb⟩;refine ⟨_,rfl,?_⟩;have n0_ := Aside0.mk (blk_below (g := gb128) (o := .cells #[.bool false,.string (⟨#[]⟩ : ByteArray),.int .i64 0] 23 (0,0)) (by (with_reducible repeat (first | refine blk_drewN ?_ _ | refine blk_drew ?_ | refine blk_alloc ?_ _));exact BK128.out) hb);have n1_ := Aside0.mk (below_step (by repeat (first | (with_reducible first | exact HB.out | apply below_alloc | apply pw_below_drewN | apply below_drew1 | refine below_set ?_ GE128.out) | exact HB.out)) hb);clear BK128;clear HB;have BK128 := n0_;have HB := n1_;clear n0_ n1_;(try clear hb);(try clear hb2);(try clear hk);(try clear hi)) | ((with_reducible refine gate_callee (f := 19) rfl ?_);refine goesL_ (some 15) rfl rfl Tryz.func19 (by kernel_rfl) rfl #[.string a1,.string (⟨#[48]⟩ : ByteArray)] rfl (by (try simp only [List.map_toArray,List.map_cons,List.map_nil]);first | done | rfl | (simp only [List.length_drop,List.length_take];rfl)) ?_;(with_reducible refine (strings_TrimLeft.calls a1 (⟨#[48]⟩ : ByteArray) t130 _ A6.out).mono ?_);rintro e w44 ⟨rfl,hb⟩;refine ⟨_,rfl,?_⟩;have n0_ := Aside0.mk (blk_below (g := gb128) (o := .cells #[.bool false,.string (⟨#[]⟩ : ByteArray),.int .i64 0] 23 (0,0)) (by (with_reducible repeat (first | refine blk_drewN ?_ _ | refine blk_drew ?_ | refine blk_alloc ?_ _));exact BK128.out) hb);have n1_ := Aside0.mk (below_step (by repeat (first | (with_reducible first | exact HB.out | apply below_alloc | apply pw_below_drewN | apply below_drew1 | refine below_set ?_ GE128.out) | exact HB.out)) hb);clear BK128;clear HB;have BK128 := n0_;have HB := n1_;clear n0_ n1_;(try clear hb);(try clear hb2);(try clear hk);(try clear hi)) | ((with_reducible refine gate_callee (f := 20) rfl ?_);refine goesL_ (some 18) rfl rfl Tryz.func20 (by kernel_rfl) rfl #[.string t130,.string (⟨#[48]⟩ : ByteArray)] rfl (by (try simp only [List.map_toArray,List.map_cons,List.map_nil]);first | done | rfl | (simp only [List.length_drop,List.length_take];rfl)) ?_;(with_reducible refine (strings_TrimRight.calls t130 (⟨#[48]⟩ : ByteArray) t131 _ A7.out).mono ?_);rintro e w45 ⟨rfl,hb⟩;refine ⟨_,rfl,?_⟩;have n0_ := Aside0.mk (blk_below (g := gb128) (o := .cells #[.bool false,.string (⟨#[]⟩ : ByteArray),.int .i64 0] 23 (0,0)) (by (with_reducible repeat (first | refine blk_drewN ?_ _ | refine blk_drew ?_ | refine blk_alloc ?_ _));exact BK128.out) hb);have n1_ := Aside0.mk (below_step (by repeat (first | (with_reducible first | exact HB.out | apply below_alloc | apply pw_below_drewN | apply below_drew1 | refine below_set ?_ GE128.out) | exact HB.out)) hb);clear BK128;clear HB;have BK128 := n0_;have HB := n1_;clear n0_ n1_;(try clear hb);(try clear hb2);(try clear hk);(try clear hi)) | ((with_reducible refine gate_dst (N := 9) rfl ?_);refine box_event ?hg (N := 9) ?hd (cs := #[.bool false,.string (⟨#[]⟩ : ByteArray),.int .i64 0]) (t := 23) ?hr ?_;(case hd => rfl);(case hg => rfl);(case hr => first | (go_simp;done) | (go_simp;rfl));intro gb132 hg w46 hbox hb;have n0_ := Aside0.mk (blk_below (g := gb128) (o := .cells #[.bool false,.string (⟨#[]⟩ : ByteArray),.int .i64 0] 23 (0,0)) (by (with_reducible repeat (first | refine blk_drewN ?_ _ | refine blk_drew ?_ | refine blk_alloc ?_ _));exact BK128.out) hb);have n1_ := Aside0.mk (below_step (by repeat (first | (with_reducible first | exact HB.out | apply below_alloc | apply pw_below_drewN | apply below_drew1 | refine below_set ?_ GE128.out) | exact HB.out)) hb);have n2_ := Aside0.mk (hbox);have n3_ := Aside0.mk ((by rw [hg];exact (below_size (by repeat (first | (with_reducible first | exact HB.out | apply below_alloc | apply pw_below_drewN | apply below_drew1 | refine below_set ?_ GE128.out) | exact HB.out))) : w.heap.size ≤ gb132));have n4_ := Aside0.mk ((by rw [hg];exact (below_size (by repeat (first | (with_reducible first | exact HB.out | apply below_alloc | apply pw_below_drewN | apply below_drew1 | refine below_set ?_ GE128.out) | exact HB.out))) : w.heap.size ≤ gb132));have n5_ := Aside0.mk ((by rw [hg];exact Nat.ne_of_lt (blk_lt (g := gb128) (o := .cells #[.bool false,.string (⟨#[]⟩ : ByteArray),.int .i64 0] 23 (0,0)) (by (with_reducible repeat (first | refine blk_drewN ?_ _ | refine blk_drew ?_ | refine blk_alloc ?_ _));exact BK128.out)) : gb128 ≠ gb132));have n6_ := Aside0.mk ((by rw [hg];exact Nat.ne_of_gt (blk_lt (g := gb128) (o := .cells #[.bool false,.string (⟨#[]⟩ : ByteArray),.int .i64 0] 23 (0,0)) (by (with_reducible repeat (first | refine blk_drewN ?_ _ | refine blk_drew ?_ | refine blk_alloc ?_ _));exact BK128.out)) : gb132 ≠ gb128));clear BK128;clear HB;have BK128 := n0_;have HB := n1_;have BK132 := n2_;have GW132 := n3_;have GE132 := n4_;have NB128_132 := n5_;have NB132_128 := n6_;clear n0_ n1_ n2_ n3_ n4_ n5_ n6_;clear hb hbox hg;have hnb47 := NB132_128.out;have hnc47 := NB128_132.out;have hcz48_0 : w46.cell? ⟨gb132,0,none⟩ = some (.bool false) := (blk_cell BK132.out 0).trans rfl;have hcz48_1 : w46.cell? ⟨gb132,1,none⟩ = some (.string (⟨#[]⟩ : ByteArray)) := (blk_cell BK132.out 1).trans rfl;have hcz48_2 : w46.cell? ⟨gb132,2,none⟩ = some (.int .i64 0) := (blk_cell BK132.out 2).trans rfl;have hfz48_0 := blk_frozen BK132.out 0;have hfz48_1 := blk_frozen BK132.out 1;have hfz48_2 := blk_frozen BK132.out 2) | ((with_reducible refine gate_callee (f := 7) rfl ?_);refine goesL_ (some 43) rfl rfl Tryz.func7 (by kernel_rfl) rfl #[.agg #[.bool a0,.string t131,.int .i64 a2]] rfl (by (try simp only [List.map_toArray,List.map_cons,List.map_nil]);first | done | rfl | (simp only [List.length_drop,List.length_take];rfl)) ?_;(with_reducible refine (decimal_Right.calls a0 t131 a2 true _ A40.out).mono ?_);rintro e w49 ⟨rfl,hb⟩;refine ⟨_,rfl,?_⟩;have n0_ := Aside0.mk (blk_below (g := gb128) (o := .cells #[.bool false,.string (⟨#[]⟩ : ByteArray),.int .i64 0] 23 (0,0)) (by (with_reducible repeat (first | refine blk_drewN ?_ _ | refine blk_drew ?_ | refine blk_alloc ?_ _));refine blk_far ?_ NB128_132.out _;(with_reducible repeat (first | refine blk_drewN ?_ _ | refine blk_drew ?_ | refine blk_alloc ?_ _));refine blk_far ?_ NB128_132.out _;(with_reducible repeat (first | refine blk_drewN ?_ _ | refine blk_drew ?_ | refine blk_alloc ?_ _));refine blk_far ?_ NB128_132.out _;(with_reducible repeat (first | refine blk_drewN ?_ _ | refine blk_drew ?_ | refine blk_alloc ?_ _));refine blk_far ?_ NB128_132.out _;(with_reducible repeat (first | refine blk_drewN ?_ _ | refine blk_drew ?_ | refine blk_alloc ?_ _));exact BK128.out) hb);have n1_ := Aside0.mk (blk_below (g := gb132) (o := .cells #[.bool a0,.string t131,.int .i64 a2] 23 (0,0)) (by (with_reducible repeat (first | refine blk_drewN ?_ _ | refine blk_drew ?_ | refine blk_alloc ?_ _));refine blk_put (cs := #[.bool a0,.string t131,.int .i64 0]) ?_ 2 _ rfl;(with_reducible repeat (first | refine blk_drewN ?_ _ | refine blk_drew ?_ | refine blk_alloc ?_ _));refine blk_put (cs := #[.bool a0,.string t131,.int .i64 0]) ?_ 2 _ rfl;(with_reducible repeat (first | refine blk_drewN ?_ _ | refine blk_drew ?_ | refine blk_alloc ?_ _));refine blk_put (cs := #[.bool a0,.string (⟨#[]⟩ : ByteArray),.int .i64 0]) ?_ 1 _ rfl;(with_reducible repeat (first | refine blk_drewN ?_ _ | refine blk_drew ?_ | refine blk_alloc ?_ _));refine blk_put (cs := #[.bool false,.string (⟨#[]⟩ : ByteArray),.int .i64 0]) ?_ 0 _ rfl;(with_reducible repeat (first | refine blk_drewN ?_ _ | refine blk_drew ?_ | refine blk_alloc ?_ _));exact BK132.out) hb);have n2_ := Aside0.mk (below_step (by repeat (first | (with_reducible first | exact HB.out | apply below_alloc | apply pw_below_drewN | apply below_drew1 | refine below_set ?_ GE128.out | refine below_set ?_ GE132.out) | exact HB.out)) hb);clear BK128;clear BK132;clear HB;have BK128 := n0_;have BK132 := n1_;have HB := n2_;clear n0_ n1_ n2_;(try clear hb);(try clear hb2);(try clear hk);(try clear hi);have hcz50_0 : w49.cell? ⟨gb132,0,none⟩ = some (.bool a0) := (blk_cell BK132.out 0).trans rfl;have hcz50_1 : w49.cell? ⟨gb132,1,none⟩ = some (.string t131) := (blk_cell BK132.out 1).trans rfl;have hcz50_2 : w49.cell? ⟨gb132,2,none⟩ = some (.int .i64 a2) := (blk_cell BK132.out 2).trans rfl;have hfz50_0 := blk_frozen BK132.out 0;have hfz50_1 := blk_frozen BK132.out 1;have hfz50_2 := blk_frozen BK132.out 2;have hcz51_0 : w49.cell? ⟨gb128,0,none⟩ = some (.bool false) := (blk_cell BK128.out 0).trans rfl;have hcz51_1 : w49.cell? ⟨gb128,1,none⟩ = some (.string (⟨#[]⟩ : ByteArray)) := (blk_cell BK128.out 1).trans rfl;have hcz51_2 : w49.cell? ⟨gb128,2,none⟩ = some (.int .i64 0) := (blk_cell BK128.out 2).trans rfl;have hfz51_0 := blk_frozen BK128.out 0;have hfz51_1 := blk_frozen BK128.out 1;have hfz51_2 := blk_frozen BK128.out 2))
     refine bodyPost_ret (results_ct rfl _ _ gb128 23 #[.bool a0,.string t131,.int .i64 a2] (0,0) _ rfl (by (with_reducible repeat (first | refine blk_drewN ?_ _ | refine blk_drew ?_ | refine blk_alloc ?_ _));refine blk_put (cs := #[.bool a0,.string t131,.int .i64 0]) ?_ 2 _ rfl;(with_reducible repeat (first | refine blk_drewN ?_ _ | refine blk_drew ?_ | refine blk_alloc ?_ _));refine blk_put (cs := #[.bool a0,.string (⟨#[]⟩ : ByteArray),.int .i64 0]) ?_ 1 _ rfl;(with_reducible repeat (first | refine blk_drewN ?_ _ | refine blk_drew ?_ | refine blk_alloc ?_ _));refine blk_put (cs := #[.bool false,.string (⟨#[]⟩ : ByteArray),.int .i64 0]) ?_ 0 _ rfl;(with_reducible repeat (first | refine blk_drewN ?_ _ | refine blk_drew ?_ | refine blk_alloc ?_ _));exact BK128.out) Tryz.underlying23 rfl (by kernel_rfl)) rfl ?_
     exact ⟨by first | rfl | (simp [errW_none,errW_some] <;> rfl) | (simp only [← hji17];first | rfl | (simp [errW_none,errW_some] <;> rfl)) | (simp [*,errW_none,errW_some] <;> rfl),by repeat (first | (with_reducible first | exact HB.out | apply below_alloc | apply pw_below_drewN | apply below_drew1 | refine below_set ?_ GE128.out | refine below_set ?_ GE132.out) | exact HB.out)⟩
    ·replace c41 := Bool.eq_false_iff.mpr c41
     subst c41
     have H1 : (some (false,(⟨#[]⟩ : ByteArray),0,2)) = some (r1,r2,r3,r4) := by rw [if_neg (show ¬ (false = true) by decide)] at H;exact H
     clear H
     have H := H1
     clear H1
     simp only [Option.some.injEq,Prod.mk.injEq] at H
     obtain ⟨rfl,rfl,rfl,rfl⟩ := H
     go_enter Tryz.func5,Tryz.ntmps5
     go_wp2_with (first | ((with_reducible refine gate_dst (N := 6) rfl ?_);refine box_event ?hg (N := 6) ?hd (cs := #[.bool false,.string (⟨#[]⟩ : ByteArray),.int .i64 0]) (t := 23) ?hr ?_;(case hd => rfl);(case hg => rfl);(case hr => first | (go_simp;done) | (go_simp;rfl));intro gb128 hg w52 hbox hb;have n0_ := Aside0.mk (below_step (by repeat (first | (with_reducible first | exact HB.out | apply below_alloc | apply pw_below_drewN | apply below_drew1) | exact HB.out)) hb);have n1_ := Aside0.mk (hbox);have n2_ := Aside0.mk ((by rw [hg];exact (below_size (by repeat (first | (with_reducible first | exact HB.out | apply below_alloc | apply pw_below_drewN | apply below_drew1) | exact HB.out))) : w.heap.size ≤ gb128));have n3_ := Aside0.mk ((by rw [hg];exact (below_size (by repeat (first | (with_reducible first | exact HB.out | apply below_alloc | apply pw_below_drewN | apply below_drew1) | exact HB.out))) : w.heap.size ≤ gb128));clear HB;have HB := n0_;have BK128 := n1_;have GW128 := n2_;have GE128 := n3_;clear n0_ n1_ n2_ n3_;clear hb hbox hg) | ((with_reducible refine gate_callee (f := 18) rfl ?_);refine goesL_ (some 11) rfl rfl Tryz.func18 (by kernel_rfl) rfl #[.string a1] rfl (by (try simp only [List.map_toArray,List.map_cons,List.map_nil]);first | done | rfl | (simp only [List.length_drop,List.length_take];rfl)) ?_;(with_reducible refine (decimal_plain.calls a1 true _ A4.out).mono ?_);rintro e w53 ⟨rfl,hb⟩;refine ⟨_,rfl,?_⟩;have n0_ := Aside0.mk (blk_below (g := gb128) (o := .cells #[.bool false,.string (⟨#[]⟩ : ByteArray),.int .i64 0] 23 (0,0)) (by (with_reducible repeat (first | refine blk_drewN ?_ _ | refine blk_drew ?_ | refine blk_alloc ?_ _));exact BK128.out) hb);have n1_ := Aside0.mk (below_step (by repeat (first | (with_reducible first | exact HB.out | apply below_alloc | apply pw_below_drewN | apply below_drew1 | refine below_set ?_ GE128.out) | exact HB.out)) hb);clear BK128;clear HB;have BK128 := n0_;have HB := n1_;clear n0_ n1_;(try clear hb);(try clear hb2);(try clear hk);(try clear hi)) | ((with_reducible refine gate_callee (f := 19) rfl ?_);refine goesL_ (some 15) rfl rfl Tryz.func19 (by kernel_rfl) rfl #[.string a1,.string (⟨#[48]⟩ : ByteArray)] rfl (by (try simp only [List.map_toArray,List.map_cons,List.map_nil]);first | done | rfl | (simp only [List.length_drop,List.length_take];rfl)) ?_;(with_reducible refine (strings_TrimLeft.calls a1 (⟨#[48]⟩ : ByteArray) t130 _ A6.out).mono ?_);rintro e w54 ⟨rfl,hb⟩;refine ⟨_,rfl,?_⟩;have n0_ := Aside0.mk (blk_below (g := gb128) (o := .cells #[.bool false,.string (⟨#[]⟩ : ByteArray),.int .i64 0] 23 (0,0)) (by (with_reducible repeat (first | refine blk_drewN ?_ _ | refine blk_drew ?_ | refine blk_alloc ?_ _));exact BK128.out) hb);have n1_ := Aside0.mk (below_step (by repeat (first | (with_reducible first | exact HB.out | apply below_alloc | apply pw_below_drewN | apply below_drew1 | refine below_set ?_ GE128.out) | exact HB.out)) hb);clear BK128;clear HB;have BK128 := n0_;have HB := n1_;clear n0_ n1_;(try clear hb);(try clear hb2);(try clear hk);(try clear hi)) | ((with_reducible refine gate_callee (f := 20) rfl ?_);refine goesL_ (some 18) rfl rfl Tryz.func20 (by kernel_rfl) rfl #[.string t130,.string (⟨#[48]⟩ : ByteArray)] rfl (by (try simp only [List.map_toArray,List.map_cons,List.map_nil]);first | done | rfl | (simp only [List.length_drop,List.length_take];rfl)) ?_;(with_reducible refine (strings_TrimRight.calls t130 (⟨#[48]⟩ : ByteArray) t131 _ A7.out).mono ?_);rintro e w55 ⟨rfl,hb⟩;refine ⟨_,rfl,?_⟩;have n0_ := Aside0.mk (blk_below (g := gb128) (o := .cells #[.bool false,.string (⟨#[]⟩ : ByteArray),.int .i64 0] 23 (0,0)) (by (with_reducible repeat (first | refine blk_drewN ?_ _ | refine blk_drew ?_ | refine blk_alloc ?_ _));exact BK128.out) hb);have n1_ := Aside0.mk (below_step (by repeat (first | (with_reducible first | exact HB.out | apply below_alloc | apply pw_below_drewN | apply below_drew1 | refine below_set ?_ GE128.out) | exact HB.out)) hb);clear BK128;clear HB;have BK128 := n0_;have HB := n1_;clear n0_ n1_;(try clear hb);(try clear hb2);(try clear hk);(try clear hi)) | ((with_reducible refine gate_dst (N := 9) rfl ?_);refine box_event ?hg (N := 9) ?hd (cs := #[.bool false,.string (⟨#[]⟩ : ByteArray),.int .i64 0]) (t := 23) ?hr ?_;(case hd => rfl);(case hg => rfl);(case hr => first | (go_simp;done) | (go_simp;rfl));intro gb132 hg w56 hbox hb;have n0_ := Aside0.mk (blk_below (g := gb128) (o := .cells #[.bool false,.string (⟨#[]⟩ : ByteArray),.int .i64 0] 23 (0,0)) (by (with_reducible repeat (first | refine blk_drewN ?_ _ | refine blk_drew ?_ | refine blk_alloc ?_ _));exact BK128.out) hb);have n1_ := Aside0.mk (below_step (by repeat (first | (with_reducible first | exact HB.out | apply below_alloc | apply pw_below_drewN | apply below_drew1 | refine below_set ?_ GE128.out) | exact HB.out)) hb);have n2_ := Aside0.mk (hbox);have n3_ := Aside0.mk ((by rw [hg];exact (below_size (by repeat (first | (with_reducible first | exact HB.out | apply below_alloc | apply pw_below_drewN | apply below_drew1 | refine below_set ?_ GE128.out) | exact HB.out))) : w.heap.size ≤ gb132));have n4_ := Aside0.mk ((by rw [hg];exact (below_size (by repeat (first | (with_reducible first | exact HB.out | apply below_alloc | apply pw_below_drewN | apply below_drew1 | refine below_set ?_ GE128.out) | exact HB.out))) : w.heap.size ≤ gb132));have n5_ := Aside0.mk ((by rw [hg];exact Nat.ne_of_lt (blk_lt (g := gb128) (o := .cells #[.bool false,.string (⟨#[]⟩ : ByteArray),.int .i64 0] 23 (0,0)) (by (with_reducible repeat (first | refine blk_drewN ?_ _ | refine blk_drew ?_ | refine blk_alloc ?_ _));exact BK128.out)) : gb128 ≠ gb132));have n6_ := Aside0.mk ((by rw [hg];exact Nat.ne_of_gt (blk_lt (g := gb128) (o := .cells #[.bool false,.string (⟨#[]⟩ : ByteArray),.int .i64 0] 23 (0,0)) (by (with_reducible repeat (first | refine blk_drewN ?_ _ | refine blk_drew ?_ | refine blk_alloc ?_ _));exact BK128.out)) : gb132 ≠ gb128));clear BK128;clear HB;have BK128 := n0_;have HB := n1_;have BK132 := n2_;have GW132 := n3_;have GE132 := n4_;have NB128_132 := n5_;have NB132_128 := n6_;clear n0_ n1_ n2_ n3_ n4_ n5_ n6_;clear hb hbox hg;have hnb57 := NB132_128.out;have hnc57 := NB128_132.out;have hcz58_0 : w56.cell? ⟨gb132,0,none⟩ = some (.bool false) := (blk_cell BK132.out 0).trans rfl;have hcz58_1 : w56.cell? ⟨gb132,1,none⟩ = some (.string (⟨#[]⟩ : ByteArray)) := (blk_cell BK132.out 1).trans rfl;have hcz58_2 : w56.cell? ⟨gb132,2,none⟩ = some (.int .i64 0) := (blk_cell BK132.out 2).trans rfl;have hfz58_0 := blk_frozen BK132.out 0;have hfz58_1 := blk_frozen BK132.out 1;have hfz58_2 := blk_frozen BK132.out 2) | ((with_reducible refine gate_callee (f := 7) rfl ?_);refine goesL_ (some 43) rfl rfl Tryz.func7 (by kernel_rfl) rfl #[.agg #[.bool a0,.string t131,.int .i64 a2]] rfl (by (try simp only [List.map_toArray,List.map_cons,List.map_nil]);first | done | rfl | (simp only [List.length_drop,List.length_take];rfl)) ?_;(with_reducible refine (decimal_Right.calls a0 t131 a2 false _ A40.out).mono ?_);rintro e w59 ⟨rfl,hb⟩;refine ⟨_,rfl,?_⟩;have n0_ := Aside0.mk (blk_below (g := gb128) (o := .cells #[.bool false,.string (⟨#[]⟩ : ByteArray),.int .i64 0] 23 (0,0)) (by (with_reducible repeat (first | refine blk_drewN ?_ _ | refine blk_drew ?_ | refine blk_alloc ?_ _));refine blk_far ?_ NB128_132.out _;(with_reducible repeat (first | refine blk_drewN ?_ _ | refine blk_drew ?_ | refine blk_alloc ?_ _));refine blk_far ?_ NB128_132.out _;(with_reducible repeat (first | refine blk_drewN ?_ _ | refine blk_drew ?_ | refine blk_alloc ?_ _));refine blk_far ?_ NB128_132.out _;(with_reducible repeat (first | refine blk_drewN ?_ _ | refine blk_drew ?_ | refine blk_alloc ?_ _));refine blk_far ?_ NB128_132.out _;(with_reducible repeat (first | refine blk_drewN ?_ _ | refine blk_drew ?_ | refine blk_alloc ?_ _));exact BK128.out) hb);have n1_ := Aside0.mk (blk_below (g := gb132) (o := .cells #[.bool a0,.string t131,.int .i64 a2] 23 (0,0)) (by (with_reducible repeat (first | refine blk_drewN ?_ _ | refine blk_drew ?_ | refine blk_alloc ?_ _));refine blk_put (cs := #[.bool a0,.string t131,.int .i64 0]) ?_ 2 _ rfl;(with_reducible repeat (first | refine blk_drewN ?_ _ | refine blk_drew ?_ | refine blk_alloc ?_ _));refine blk_put (cs := #[.bool a0,.string t131,.int .i64 0]) ?_ 2 _ rfl;(with_reducible repeat (first | refine blk_drewN ?_ _ | refine blk_drew ?_ | refine blk_alloc ?_ _));refine blk_put (cs := #[.bool a0,.string (⟨#[]⟩ : ByteArray),.int .i64 0]) ?_ 1 _ rfl;(with_reducible repeat (first | refine blk_drewN ?_ _ | refine blk_drew ?_ | refine blk_alloc ?_ _));refine blk_put (cs := #[.bool false,.string (⟨#[]⟩ : ByteArray),.int .i64 0]) ?_ 0 _ rfl;(with_reducible repeat (first | refine blk_drewN ?_ _ | refine blk_drew ?_ | refine blk_alloc ?_ _));exact BK132.out) hb);have n2_ := Aside0.mk (below_step (by repeat (first | (with_reducible first | exact HB.out | apply below_alloc | apply pw_below_drewN | apply below_drew1 | refine below_set ?_ GE128.out | refine below_set ?_ GE132.out) | exact HB.out)) hb);clear BK128;clear BK132;clear HB;have BK128 := n0_;have BK132 := n1_;have HB := n2_;clear n0_ n1_ n2_;(try clear hb);(try clear hb2);(try clear hk);(try clear hi);have hcz60_0 : w59.cell? ⟨gb128,0,none⟩ = some (.bool false) := (blk_cell BK128.out 0).trans rfl;have hcz60_1 : w59.cell? ⟨gb128,1,none⟩ = some (.string (⟨#[]⟩ : ByteArray)) := (blk_cell BK128.out 1).trans rfl;have hcz60_2 : w59.cell? ⟨gb128,2,none⟩ = some (.int .i64 0) := (blk_cell BK128.out 2).trans rfl;have hfz60_0 := blk_frozen BK128.out 0;have hfz60_1 := blk_frozen BK128.out 1;have hfz60_2 := blk_frozen BK128.out 2))
     refine bodyPost_ret (results_ct rfl _ _ gb128 23 #[.bool false,.string (⟨#[]⟩ : ByteArray),.int .i64 0] (0,0) _ rfl (by (with_reducible repeat (first | refine blk_drewN ?_ _ | refine blk_drew ?_ | refine blk_alloc ?_ _));refine blk_put (cs := #[.bool false,.string (⟨#[]⟩ : ByteArray),.int .i64 0]) ?_ 2 _ rfl;(with_reducible repeat (first | refine blk_drewN ?_ _ | refine blk_drew ?_ | refine blk_alloc ?_ _));refine blk_put (cs := #[.bool false,.string (⟨#[]⟩ : ByteArray),.int .i64 0]) ?_ 1 _ rfl;(with_reducible repeat (first | refine blk_drewN ?_ _ | refine blk_drew ?_ | refine blk_alloc ?_ _));refine blk_put (cs := #[.bool false,.string (⟨#[]⟩ : ByteArray),.int .i64 0]) ?_ 0 _ rfl;(with_reducible repeat (first | refine blk_drewN ?_ _ | refine blk_drew ?_ | refine blk_alloc ?_ _));exact BK128.out) Tryz.underlying23 rfl (by kernel_rfl)) rfl ?_
     exact ⟨by first | rfl | (simp [errW_none,errW_some] <;> rfl) | (simp only [← hji17];first | rfl | (simp [errW_none,errW_some] <;> rfl)) | (simp [*,errW_none,errW_some] <;> rfl),by repeat (first | (with_reducible first | exact HB.out | apply below_alloc | apply pw_below_drewN | apply below_drew1 | refine below_set ?_ GE128.out | refine below_set ?_ GE132.out) | exact HB.out)⟩
 ·replace c5 := Bool.eq_false_iff.mpr c5
  subst c5
  have H1 : (some (false,(⟨#[]⟩ : ByteArray),0,3)) = some (r1,r2,r3,r4) := by rw [if_neg (show ¬ (false = true) by decide)] at H;exact H
  clear H
  have H := H1
  clear H1
  simp only [Option.some.injEq,Prod.mk.injEq] at H
  obtain ⟨rfl,rfl,rfl,rfl⟩ := H
  go_enter Tryz.func5,Tryz.ntmps5
  go_wp2_with (first | ((with_reducible refine gate_dst (N := 6) rfl ?_);refine box_event ?hg (N := 6) ?hd (cs := #[.bool false,.string (⟨#[]⟩ : ByteArray),.int .i64 0]) (t := 23) ?hr ?_;(case hd => rfl);(case hg => rfl);(case hr => first | (go_simp;done) | (go_simp;rfl));intro gb128 hg w61 hbox hb;have n0_ := Aside0.mk (below_step (by repeat (first | (with_reducible first | exact HB.out | apply below_alloc | apply pw_below_drewN | apply below_drew1) | exact HB.out)) hb);have n1_ := Aside0.mk (hbox);have n2_ := Aside0.mk ((by rw [hg];exact (below_size (by repeat (first | (with_reducible first | exact HB.out | apply below_alloc | apply pw_below_drewN | apply below_drew1) | exact HB.out))) : w.heap.size ≤ gb128));have n3_ := Aside0.mk ((by rw [hg];exact (below_size (by repeat (first | (with_reducible first | exact HB.out | apply below_alloc | apply pw_below_drewN | apply below_drew1) | exact HB.out))) : w.heap.size ≤ gb128));clear HB;have HB := n0_;have BK128 := n1_;have GW128 := n2_;have GE128 := n3_;clear n0_ n1_ n2_ n3_;clear hb hbox hg) | ((with_reducible refine gate_callee (f := 18) rfl ?_);refine goesL_ (some 11) rfl rfl Tryz.func18 (by kernel_rfl) rfl #[.string a1] rfl (by (try simp only [List.map_toArray,List.map_cons,List.map_nil]);first | done | rfl | (simp only [List.length_drop,List.length_take];rfl)) ?_;(with_reducible refine (decimal_plain.calls a1 false _ A4.out).mono ?_);rintro e w62 ⟨rfl,hb⟩;refine ⟨_,rfl,?_⟩;have n0_ := Aside0.mk (blk_below (g := gb128) (o := .cells #[.bool false,.string (⟨#[]⟩ : ByteArray),.int .i64 0] 23 (0,0)) (by (with_reducible repeat (first | refine blk_drewN ?_ _ | refine blk_drew ?_ | refine blk_alloc ?_ _));exact BK128.out) hb);have n1_ := Aside0.mk (below_step (by repeat (first | (with_reducible first | exact HB.out | apply below_alloc | apply pw_below_drewN | apply below_drew1 | refine below_set ?_ GE128.out) | exact HB.out)) hb);clear BK128;clear HB;have BK128 := n0_;have HB := n1_;clear n0_ n1_;(try clear hb);(try clear hb2);(try clear hk);(try clear hi);have hcz63_0 : w62.cell? ⟨gb128,0,none⟩ = some (.bool false) := (blk_cell BK128.out 0).trans rfl;have hcz63_1 : w62.cell? ⟨gb128,1,none⟩ = some (.string (⟨#[]⟩ : ByteArray)) := (blk_cell BK128.out 1).trans rfl;have hcz63_2 : w62.cell? ⟨gb128,2,none⟩ = some (.int .i64 0) := (blk_cell BK128.out 2).trans rfl;have hfz63_0 := blk_frozen BK128.out 0;have hfz63_1 := blk_frozen BK128.out 1;have hfz63_2 := blk_frozen BK128.out 2))
  refine bodyPost_ret (results_ct rfl _ _ gb128 23 #[.bool false,.string (⟨#[]⟩ : ByteArray),.int .i64 0] (0,0) _ rfl (by (with_reducible repeat (first | refine blk_drewN ?_ _ | refine blk_drew ?_ | refine blk_alloc ?_ _));refine blk_put (cs := #[.bool false,.string (⟨#[]⟩ : ByteArray),.int .i64 0]) ?_ 2 _ rfl;(with_reducible repeat (first | refine blk_drewN ?_ _ | refine blk_drew ?_ | refine blk_alloc ?_ _));refine blk_put (cs := #[.bool false,.string (⟨#[]⟩ : ByteArray),.int .i64 0]) ?_ 1 _ rfl;(with_reducible repeat (first | refine blk_drewN ?_ _ | refine blk_drew ?_ | refine blk_alloc ?_ _));refine blk_put (cs := #[.bool false,.string (⟨#[]⟩ : ByteArray),.int .i64 0]) ?_ 0 _ rfl;(with_reducible repeat (first | refine blk_drewN ?_ _ | refine blk_drew ?_ | refine blk_alloc ?_ _));exact BK128.out) Tryz.underlying23 rfl (by kernel_rfl)) rfl ?_
  exact ⟨by first | rfl | (simp [errW_none,errW_some] <;> rfl) | (simp [*,errW_none,errW_some] <;> rfl),by repeat (first | (with_reducible first | exact HB.out | apply below_alloc | apply pw_below_drewN | apply below_drew1 | refine below_set ?_ GE128.out) | exact HB.out)⟩

/-! ### decimal_up: function 45 -/
def decimal_up.f (a0 : Bool) (a1 : ByteArray) (a2 : ByteArray) (a3 : Int) : Option (Bool) := if a2.toList = ([] : List UInt8) then (some false) else ((strings_Compare.f a2 (⟨#[53]⟩ : ByteArray)).bind fun t135 => (if a3 = 0 then (if t135 > 0 then (some true) else (if t135 = 0 then (if a1.toList = ([] : List UInt8) then (some false) else (if 0 ≤ (wrap64 ((a1.size : Int) - 1)) then (if (wrap64 ((a1.size : Int) - 1)) < (a1.size : Int) then (some ((Go.bits .and .u8 (bt a1 (wrap64 ((a1.size : Int) - 1))) 1) == 1)) else (none)) else (none))) else (some false))) else (if a3 = 1 then (some (decide (t135 ≥ 0))) else (if a3 = 3 then (some true) else (if a3 = 4 then (some a0) else (if a3 = 5 then (some (!a0)) else (some false)))))))
set_option maxHeartbeats 8000000 in
set_option maxRecDepth 100000 in
theorem decimal_up.calls (a0 : Bool) (a1 : ByteArray) (a2 : ByteArray) (a3 : Int) (r : Bool) (w : World) (h : decimal_up.f a0 a1 a2 a3 = some r) :
  Calls Tryz.prog 45 #[.bool a0,.string a1,.string a2,.int .i64 a3] w fun e w' => e = .returned (.bool r) ∧ Below w.heap.size w w' := by
 have HB := Aside0.mk (Below.refl w.heap.size w)
 have H : (if a2.toList = ([] : List UInt8) then (some false) else ((strings_Compare.f a2 (⟨#[53]⟩ : ByteArray)).bind fun t135 => (if a3 = 0 then (if t135 > 0 then (some true) else (if t135 = 0 then (if a1.toList = ([] : List UInt8) then (some false) else (if 0 ≤ (wrap64 ((a1.size : Int) - 1)) then (if (wrap64 ((a1.size : Int) - 1)) < (a1.size : Int) then (some ((Go.bits .and .u8 (bt a1 (wrap64 ((a1.size : Int) - 1))) 1) == 1)) else (none)) else (none))) else (some false))) else (if a3 = 1 then (some (decide (t135 ≥ 0))) else (if a3 = 3 then (some true) else (if a3 = 4 then (some a0) else (if a3 = 5 then (some (!a0)) else (some false)))))))) = some r := h
 clear h
 by_cases c5 : a2.toList = ([] : List UInt8)
 ·rw [if_pos c5] at H
  have c5b0 : (a2.toList == ([] : List UInt8)) = true := beq_iff_eq.mpr c5
  have c5b1 : (a2.toList != ([] : List UInt8)) = false := bne_eq_false_iff_eq.mpr c5
  clear c5
  obtain rfl := Option.some.inj H
  go_enter Tryz.func45,Tryz.ntmps45
  go_wp2
  go_ret
  exact ⟨by first | rfl | (simp [errW_none,errW_some] <;> rfl) | (simp [*,errW_none,errW_some] <;> rfl),by repeat (first | (with_reducible first | exact HB.out | apply below_alloc | apply pw_below_drewN | apply below_drew1) | exact HB.out)⟩
 ·rw [if_neg c5] at H
  have c5b0 : (a2.toList == ([] : List UInt8)) = false := beq_eq_false_iff_ne.mpr c5
  have c5b1 : (a2.toList != ([] : List UInt8)) = true := bne_iff_ne.mpr c5
  replace H := Option.bind_eq_some_iff.mp H
  obtain ⟨t135,A60,H⟩ := H
  replace H : (if a3 = 0 then (if t135 > 0 then (some true) else (if t135 = 0 then (if a1.toList = ([] : List UInt8) then (some false) else (if 0 ≤ (wrap64 ((a1.size : Int) - 1)) then (if (wrap64 ((a1.size : Int) - 1)) < (a1.size : Int) then (some ((Go.bits .and .u8 (bt a1 (wrap64 ((a1.size : Int) - 1))) 1) == 1)) else (none)) else (none))) else (some false))) else (if a3 = 1 then (some (decide (t135 ≥ 0))) else (if a3 = 3 then (some true) else (if a3 = 4 then (some a0) else (if a3 = 5 then (some (!a0)) else (some false)))))) = some r := H
  have A6 := Aside0.mk A60
  clear A60
  by_cases c7 : a3 = 0
  ·rw [if_pos c7] at H
   have c7b0 : (a3 == 0) = true := beq_iff_eq.mpr c7
   have c7b1 : (a3 != 0) = false := bne_eq_false_iff_eq.mpr c7
   clear c7
   by_cases c8 : t135 > 0
   ·rw [if_pos c8] at H
    have c8b0 : decide (0 < t135) = true := decide_eq_true c8
    clear c8
    obtain rfl := Option.some.inj H
    go_enter Tryz.func45,Tryz.ntmps45
    go_wp2_with (first | ((with_reducible refine gate_callee (f := 43) rfl ?_);refine goesL_ (some 13) rfl rfl Tryz.func43 (by kernel_rfl) rfl #[.string a2,.string (⟨#[53]⟩ : ByteArray)] rfl (by (try simp only [List.map_toArray,List.map_cons,List.map_nil]);first | done | rfl | (simp only [List.length_drop,List.length_take];rfl)) ?_;(with_reducible refine (strings_Compare.calls a2 (⟨#[53]⟩ : ByteArray) t135 _ A6.out).mono ?_);rintro e w' ⟨rfl,⟨nd,rfl⟩⟩;refine ⟨_,rfl,?_⟩))
    go_ret
    exact ⟨by first | rfl | (simp [errW_none,errW_some] <;> rfl) | (simp [*,errW_none,errW_some] <;> rfl),by repeat (first | (with_reducible first | exact HB.out | apply below_alloc | apply pw_below_drewN | apply below_drew1) | exact HB.out)⟩
   ·rw [if_neg c8] at H
    have c8b0 : decide (0 < t135) = false := decide_eq_false c8
    clear c8
    by_cases c9 : t135 = 0
    ·rw [if_pos c9] at H
     have c9b0 : (t135 == 0) = true := beq_iff_eq.mpr c9
     have c9b1 : (t135 != 0) = false := bne_eq_false_iff_eq.mpr c9
     clear c9
     by_cases c10 : a1.toList = ([] : List UInt8)
     ·rw [if_pos c10] at H
      have c10b0 : (a1.toList == ([] : List UInt8)) = true := beq_iff_eq.mpr c10
      have c10b1 : (a1.toList != ([] : List UInt8)) = false := bne_eq_false_iff_eq.mpr c10
      clear c10
      obtain rfl := Option.some.inj H
      go_enter Tryz.func45,Tryz.ntmps45
      go_wp2_with (first | ((with_reducible refine gate_callee (f := 43) rfl ?_);refine goesL_ (some 13) rfl rfl Tryz.func43 (by kernel_rfl) rfl #[.string a2,.string (⟨#[53]⟩ : ByteArray)] rfl (by (try simp only [List.map_toArray,List.map_cons,List.map_nil]);first | done | rfl | (simp only [List.length_drop,List.length_take];rfl)) ?_;(with_reducible refine (strings_Compare.calls a2 (⟨#[53]⟩ : ByteArray) t135 _ A6.out).mono ?_);rintro e w' ⟨rfl,⟨nd,rfl⟩⟩;refine ⟨_,rfl,?_⟩))
      go_ret
      exact ⟨by first | rfl | (simp [errW_none,errW_some] <;> rfl) | (simp [*,errW_none,errW_some] <;> rfl),by repeat (first | (with_reducible first | exact HB.out | apply below_alloc | apply pw_below_drewN | apply below_drew1) | exact HB.out)⟩
     ·rw [if_neg c10] at H
      have c10b0 : (a1.toList == ([] : List UInt8)) = false := beq_eq_false_iff_ne.mpr c10
      have c10b1 : (a1.toList != ([] : List UInt8)) = true := bne_iff_ne.mpr c10
      obtain ⟨ji11,hji11⟩ : ∃ j_ : Int,(wrap64 ((a1.size : Int) - 1)) = j_ := ⟨_,rfl⟩
      replace H : (if 0 ≤ (ji11) then (if (ji11) < (a1.size : Int) then (some ((Go.bits .and .u8 (bt a1 (ji11)) 1) == 1)) else (none)) else (none)) = some r := by first | (rw [hji11] at H;exact H) | (simp only [hji11] at H ⊢;exact H)
      (try rw [hji11] at A6)
      have hji11w : (IntKind.i64.wrap ((a1.size : Int) - 1)) = ji11 := (i64_w _).trans hji11
      by_cases c12 : 0 ≤ (ji11)
      ·rw [if_pos c12] at H
       have c12b0 : decide (0 ≤ (ji11)) = true := decide_eq_true c12
       clear c12
       by_cases c13 : (ji11) < (a1.size : Int)
       ·rw [if_pos c13] at H
        have c13b0 : decide ((ji11) < (a1.size : Int)) = true := decide_eq_true c13
        clear c13
        obtain rfl := Option.some.inj H
        go_enter Tryz.func45,Tryz.ntmps45
        go_wp2_with (first | ((with_reducible refine gate_callee (f := 43) rfl ?_);refine goesL_ (some 13) rfl rfl Tryz.func43 (by kernel_rfl) rfl #[.string a2,.string (⟨#[53]⟩ : ByteArray)] rfl (by (try simp only [List.map_toArray,List.map_cons,List.map_nil]);first | done | rfl | (simp only [List.length_drop,List.length_take];rfl)) ?_;(with_reducible refine (strings_Compare.calls a2 (⟨#[53]⟩ : ByteArray) t135 _ A6.out).mono ?_);rintro e w' ⟨rfl,⟨nd,rfl⟩⟩;refine ⟨_,rfl,?_⟩;have p14 : 0 ≤ ((ji11) : Int) := of_decide_eq_true (by first | (with_reducible assumption) | assumption);have q14 : (ji11) < (a1.size : Int) := of_decide_eq_true (by first | (with_reducible assumption) | assumption);have hx14 := bt_at a1 (ji11);replace p14 := eq_true p14;replace q14 := eq_true q14))
        go_ret
        exact ⟨by first | rfl | (simp [errW_none,errW_some] <;> rfl) | (simp only [← hji11];first | rfl | (simp [errW_none,errW_some] <;> rfl)) | (simp [*,errW_none,errW_some] <;> rfl),by repeat (first | (with_reducible first | exact HB.out | apply below_alloc | apply pw_below_drewN | apply below_drew1) | exact HB.out)⟩
       ·rw [if_neg c13] at H
        exact absurd H (by simp)
      ·rw [if_neg c12] at H
       exact absurd H (by simp)
    ·rw [if_neg c9] at H
     have c9b0 : (t135 == 0) = false := beq_eq_false_iff_ne.mpr c9
     have c9b1 : (t135 != 0) = true := bne_iff_ne.mpr c9
     obtain rfl := Option.some.inj H
     go_enter Tryz.func45,Tryz.ntmps45
     go_wp2_with (first | ((with_reducible refine gate_callee (f := 43) rfl ?_);refine goesL_ (some 13) rfl rfl Tryz.func43 (by kernel_rfl) rfl #[.string a2,.string (⟨#[53]⟩ : ByteArray)] rfl (by (try simp only [List.map_toArray,List.map_cons,List.map_nil]);first | done | rfl | (simp only [List.length_drop,List.length_take];rfl)) ?_;(with_reducible refine (strings_Compare.calls a2 (⟨#[53]⟩ : ByteArray) t135 _ A6.out).mono ?_);rintro e w' ⟨rfl,⟨nd,rfl⟩⟩;refine ⟨_,rfl,?_⟩))
     go_ret
     exact ⟨by first | rfl | (simp [errW_none,errW_some] <;> rfl) | (simp [*,errW_none,errW_some] <;> rfl),by repeat (first | (with_reducible first | exact HB.out | apply below_alloc | apply pw_below_drewN | apply below_drew1) | exact HB.out)⟩
  ·rw [if_neg c7] at H
   have c7b0 : (a3 == 0) = false := beq_eq_false_iff_ne.mpr c7
   have c7b1 : (a3 != 0) = true := bne_iff_ne.mpr c7
   by_cases c15 : a3 = 1
   ·rw [if_pos c15] at H
    have c15b0 : (a3 == 1) = true := beq_iff_eq.mpr c15
    have c15b1 : (a3 != 1) = false := bne_eq_false_iff_eq.mpr c15
    clear c15
    obtain rfl := Option.some.inj H
    go_enter Tryz.func45,Tryz.ntmps45
    go_wp2_with (first | ((with_reducible refine gate_callee (f := 43) rfl ?_);refine goesL_ (some 13) rfl rfl Tryz.func43 (by kernel_rfl) rfl #[.string a2,.string (⟨#[53]⟩ : ByteArray)] rfl (by (try simp only [List.map_toArray,List.map_cons,List.map_nil]);first | done | rfl | (simp only [List.length_drop,List.length_take];rfl)) ?_;(with_reducible refine (strings_Compare.calls a2 (⟨#[53]⟩ : ByteArray) t135 _ A6.out).mono ?_);rintro e w' ⟨rfl,⟨nd,rfl⟩⟩;refine ⟨_,rfl,?_⟩))
    go_ret
    exact ⟨by first | rfl | (simp [errW_none,errW_some] <;> rfl) | (simp [*,errW_none,errW_some] <;> rfl),by repeat (first | (with_reducible first | exact HB.out | apply below_alloc | apply pw_below_drewN | apply below_drew1) | exact HB.out)⟩
   ·rw [if_neg c15] at H
    have c15b0 : (a3 == 1) = false := beq_eq_false_iff_ne.mpr c15
    have c15b1 : (a3 != 1) = true := bne_iff_ne.mpr c15
    by_cases c16 : a3 = 3
    ·rw [if_pos c16] at H
     have c16b0 : (a3 == 3) = true := beq_iff_eq.mpr c16
     have c16b1 : (a3 != 3) = false := bne_eq_false_iff_eq.mpr c16
     clear c16
     obtain rfl := Option.some.inj H
     go_enter Tryz.func45,Tryz.ntmps45
     go_wp2_with (first | ((with_reducible refine gate_callee (f := 43) rfl ?_);refine goesL_ (some 13) rfl rfl Tryz.func43 (by kernel_rfl) rfl #[.string a2,.string (⟨#[53]⟩ : ByteArray)] rfl (by (try simp only [List.map_toArray,List.map_cons,List.map_nil]);first | done | rfl | (simp only [List.length_drop,List.length_take];rfl)) ?_;(with_reducible refine (strings_Compare.calls a2 (⟨#[53]⟩ : ByteArray) t135 _ A6.out).mono ?_);rintro e w' ⟨rfl,⟨nd,rfl⟩⟩;refine ⟨_,rfl,?_⟩))
     go_ret
     exact ⟨by first | rfl | (simp [errW_none,errW_some] <;> rfl) | (simp [*,errW_none,errW_some] <;> rfl),by repeat (first | (with_reducible first | exact HB.out | apply below_alloc | apply pw_below_drewN | apply below_drew1) | exact HB.out)⟩
    ·rw [if_neg c16] at H
     have c16b0 : (a3 == 3) = false := beq_eq_false_iff_ne.mpr c16
     have c16b1 : (a3 != 3) = true := bne_iff_ne.mpr c16
     by_cases c17 : a3 = 4
     ·rw [if_pos c17] at H
      have c17b0 : (a3 == 4) = true := beq_iff_eq.mpr c17
      have c17b1 : (a3 != 4) = false := bne_eq_false_iff_eq.mpr c17
      clear c17
      obtain rfl := Option.some.inj H
      go_enter Tryz.func45,Tryz.ntmps45
      go_wp2_with (first | ((with_reducible refine gate_callee (f := 43) rfl ?_);refine goesL_ (some 13) rfl rfl Tryz.func43 (by kernel_rfl) rfl #[.string a2,.string (⟨#[53]⟩ : ByteArray)] rfl (by (try simp only [List.map_toArray,List.map_cons,List.map_nil]);first | done | rfl | (simp only [List.length_drop,List.length_take];rfl)) ?_;(with_reducible refine (strings_Compare.calls a2 (⟨#[53]⟩ : ByteArray) t135 _ A6.out).mono ?_);rintro e w' ⟨rfl,⟨nd,rfl⟩⟩;refine ⟨_,rfl,?_⟩))
      go_ret
      exact ⟨by first | rfl | (simp [errW_none,errW_some] <;> rfl) | (simp [*,errW_none,errW_some] <;> rfl),by repeat (first | (with_reducible first | exact HB.out | apply below_alloc | apply pw_below_drewN | apply below_drew1) | exact HB.out)⟩
     ·rw [if_neg c17] at H
      have c17b0 : (a3 == 4) = false := beq_eq_false_iff_ne.mpr c17
      have c17b1 : (a3 != 4) = true := bne_iff_ne.mpr c17
      by_cases c18 : a3 = 5
      ·rw [if_pos c18] at H
       have c18b0 : (a3 == 5) = true := beq_iff_eq.mpr c18
       have c18b1 : (a3 != 5) = false := bne_eq_false_iff_eq.mpr c18
       clear c18
       obtain rfl := Option.some.inj H
       go_enter Tryz.func45,Tryz.ntmps45
       go_wp2_with (first | ((with_reducible refine gate_callee (f := 43) rfl ?_);refine goesL_ (some 13) rfl rfl Tryz.func43 (by kernel_rfl) rfl #[.string a2,.string (⟨#[53]⟩ : ByteArray)] rfl (by (try simp only [List.map_toArray,List.map_cons,List.map_nil]);first | done | rfl | (simp only [List.length_drop,List.length_take];rfl)) ?_;(with_reducible refine (strings_Compare.calls a2 (⟨#[53]⟩ : ByteArray) t135 _ A6.out).mono ?_);rintro e w' ⟨rfl,⟨nd,rfl⟩⟩;refine ⟨_,rfl,?_⟩))
       go_ret
       exact ⟨by first | rfl | (simp [errW_none,errW_some] <;> rfl) | (simp [*,errW_none,errW_some] <;> rfl),by repeat (first | (with_reducible first | exact HB.out | apply below_alloc | apply pw_below_drewN | apply below_drew1) | exact HB.out)⟩
      ·rw [if_neg c18] at H
       have c18b0 : (a3 == 5) = false := beq_eq_false_iff_ne.mpr c18
       have c18b1 : (a3 != 5) = true := bne_iff_ne.mpr c18
       obtain rfl := Option.some.inj H
       go_enter Tryz.func45,Tryz.ntmps45
       go_wp2_with (first | ((with_reducible refine gate_callee (f := 43) rfl ?_);refine goesL_ (some 13) rfl rfl Tryz.func43 (by kernel_rfl) rfl #[.string a2,.string (⟨#[53]⟩ : ByteArray)] rfl (by (try simp only [List.map_toArray,List.map_cons,List.map_nil]);first | done | rfl | (simp only [List.length_drop,List.length_take];rfl)) ?_;(with_reducible refine (strings_Compare.calls a2 (⟨#[53]⟩ : ByteArray) t135 _ A6.out).mono ?_);rintro e w' ⟨rfl,⟨nd,rfl⟩⟩;refine ⟨_,rfl,?_⟩))
       go_ret
       exact ⟨by first | rfl | (simp [errW_none,errW_some] <;> rfl) | (simp [*,errW_none,errW_some] <;> rfl),by repeat (first | (with_reducible first | exact HB.out | apply below_alloc | apply pw_below_drewN | apply below_drew1) | exact HB.out)⟩

/-! ### decimal_more: function 46 -/
def decimal_more.f (a0 : ByteArray) : Option (ByteArray) := (strings_TrimRight.f a0 (⟨#[57]⟩ : ByteArray)).bind fun t136 => ((strings_Repeat.f (⟨#[48]⟩ : ByteArray) (wrap64 ((a0.size : Int) - (t136.size : Int)))).bind fun t137 => (if t136.toList = ([] : List UInt8) then (if 1 + t137.size ≤ 9223372036854775807 then (some ((⟨#[49]⟩ : ByteArray) ++ t137)) else (none)) else (if 0 ≤ (wrap64 ((t136.size : Int) - 1)) then (if (wrap64 ((t136.size : Int) - 1)) ≤ (t136.size : Int) then (if (wrap64 ((t136.size : Int) - 1)) < (t136.size : Int) then (if (t136.extract 0 ((wrap64 ((t136.size : Int) - 1)) : Int).toNat).size + (Utf8.encode (((bt t136 (wrap64 ((t136.size : Int) - 1))) + 1) % 256)).size ≤ 9223372036854775807 then (if ((t136.extract 0 ((wrap64 ((t136.size : Int) - 1)) : Int).toNat) ++ (Utf8.encode (((bt t136 (wrap64 ((t136.size : Int) - 1))) + 1) % 256))).size + t137.size ≤ 9223372036854775807 then (some (((t136.extract 0 ((wrap64 ((t136.size : Int) - 1)) : Int).toNat) ++ (Utf8.encode (((bt t136 (wrap64 ((t136.size : Int) - 1))) + 1) % 256))) ++ t137)) else (none)) else (none)) else (none)) else (none)) else (none))))
set_option maxHeartbeats 8000000 in
set_option maxRecDepth 100000 in
theorem decimal_more.calls (a0 : ByteArray) (r : ByteArray) (w : World) (h : decimal_more.f a0 = some r) :
  Calls Tryz.prog 46 #[.string a0] w fun e w' => e = .returned (.string r) ∧ Below w.heap.size w w' := by
 have HB := Aside0.mk (Below.refl w.heap.size w)
 have H : ((strings_TrimRight.f a0 (⟨#[57]⟩ : ByteArray)).bind fun t136 => ((strings_Repeat.f (⟨#[48]⟩ : ByteArray) (wrap64 ((a0.size : Int) - (t136.size : Int)))).bind fun t137 => (if t136.toList = ([] : List UInt8) then (if 1 + t137.size ≤ 9223372036854775807 then (some ((⟨#[49]⟩ : ByteArray) ++ t137)) else (none)) else (if 0 ≤ (wrap64 ((t136.size : Int) - 1)) then (if (wrap64 ((t136.size : Int) - 1)) ≤ (t136.size : Int) then (if (wrap64 ((t136.size : Int) - 1)) < (t136.size : Int) then (if (t136.extract 0 ((wrap64 ((t136.size : Int) - 1)) : Int).toNat).size + (Utf8.encode (((bt t136 (wrap64 ((t136.size : Int) - 1))) + 1) % 256)).size ≤ 9223372036854775807 then (if ((t136.extract 0 ((wrap64 ((t136.size : Int) - 1)) : Int).toNat) ++ (Utf8.encode (((bt t136 (wrap64 ((t136.size : Int) - 1))) + 1) % 256))).size + t137.size ≤ 9223372036854775807 then (some (((t136.extract 0 ((wrap64 ((t136.size : Int) - 1)) : Int).toNat) ++ (Utf8.encode (((bt t136 (wrap64 ((t136.size : Int) - 1))) + 1) % 256))) ++ t137)) else (none)) else (none)) else (none)) else (none)) else (none))))) = some r := h
 clear h
 replace H := Option.bind_eq_some_iff.mp H
 obtain ⟨t136,A20,H⟩ := H
 replace H : ((strings_Repeat.f (⟨#[48]⟩ : ByteArray) (wrap64 ((a0.size : Int) - (t136.size : Int)))).bind fun t137 => (if t136.toList = ([] : List UInt8) then (if 1 + t137.size ≤ 9223372036854775807 then (some ((⟨#[49]⟩ : ByteArray) ++ t137)) else (none)) else (if 0 ≤ (wrap64 ((t136.size : Int) - 1)) then (if (wrap64 ((t136.size : Int) - 1)) ≤ (t136.size : Int) then (if (wrap64 ((t136.size : Int) - 1)) < (t136.size : Int) then (if (t136.extract 0 ((wrap64 ((t136.size : Int) - 1)) : Int).toNat).size + (Utf8.encode (((bt t136 (wrap64 ((t136.size : Int) - 1))) + 1) % 256)).size ≤ 9223372036854775807 then (if ((t136.extract 0 ((wrap64 ((t136.size : Int) - 1)) : Int).toNat) ++ (Utf8.encode (((bt t136 (wrap64 ((t136.size : Int) - 1))) + 1) % 256))).size + t137.size ≤ 9223372036854775807 then (some (((t136.extract 0 ((wrap64 ((t136.size : Int) - 1)) : Int).toNat) ++ (Utf8.encode (((bt t136 (wrap64 ((t136.size : Int) - 1))) + 1) % 256))) ++ t137)) else (none)) else (none)) else (none)) else (none)) else (none)))) = some r := H
 have A2 := Aside0.mk A20
 clear A20
 replace H := Option.bind_eq_some_iff.mp H
 obtain ⟨t137,A30,H⟩ := H
 replace H : (if t136.toList = ([] : List UInt8) then (if 1 + t137.size ≤ 9223372036854775807 then (some ((⟨#[49]⟩ : ByteArray) ++ t137)) else (none)) else (if 0 ≤ (wrap64 ((t136.size : Int) - 1)) then (if (wrap64 ((t136.size : Int) - 1)) ≤ (t136.size : Int) then (if (wrap64 ((t136.size : Int) - 1)) < (t136.size : Int) then (if (t136.extract 0 ((wrap64 ((t136.size : Int) - 1)) : Int).toNat).size + (Utf8.encode (((bt t136 (wrap64 ((t136.size : Int) - 1))) + 1) % 256)).size ≤ 9223372036854775807 then (if ((t136.extract 0 ((wrap64 ((t136.size : Int) - 1)) : Int).toNat) ++ (Utf8.encode (((bt t136 (wrap64 ((t136.size : Int) - 1))) + 1) % 256))).size + t137.size ≤ 9223372036854775807 then (some (((t136.extract 0 ((wrap64 ((t136.size : Int) - 1)) : Int).toNat) ++ (Utf8.encode (((bt t136 (wrap64 ((t136.size : Int) - 1))) + 1) % 256))) ++ t137)) else (none)) else (none)) else (none)) else (none)) else (none))) = some r := H
 have A3 := Aside0.mk A30
 clear A30
 by_cases c4 : t136.toList = ([] : List UInt8)
 ·rw [if_pos c4] at H
  have c4b0 : (t136.toList == ([] : List UInt8)) = true := beq_iff_eq.mpr c4
  have c4b1 : (t136.toList != ([] : List UInt8)) = false := bne_eq_false_iff_eq.mpr c4
  clear c4
  by_cases c5 : 1 + t137.size ≤ 9223372036854775807
  ·rw [if_pos c5] at H
   have c5b0 := eq_true c5
   have c5b1 : decide (1 + t137.size ≤ 9223372036854775807) = true := decide_eq_true c5
   try have c5b2 : (9223372036854775807 < 1 + t137.size) = False := eq_false (Nat.not_lt.2 c5)
   obtain rfl := Option.some.inj H
   go_enter Tryz.func46,Tryz.ntmps46
   go_wp2_with (first | (go_at_call 20;(with_reducible refine (strings_TrimRight.calls a0 (⟨#[57]⟩ : ByteArray) t136 _ A2.out).mono ?_);rintro e w6 ⟨rfl,hb⟩;have n0_ := Aside0.mk (below_step (by repeat (first | (with_reducible first | exact HB.out | apply below_alloc | apply pw_below_drewN | apply below_drew1) | exact HB.out)) hb);clear HB;have HB := n0_;clear n0_;(try clear hb);(try clear hb2);(try clear hk);(try clear hi)) | (go_at_call 31;(with_reducible refine (strings_Repeat.calls (⟨#[48]⟩ : ByteArray) (wrap64 ((a0.size : Int) - (t136.size : Int))) t137 _ A3.out).mono ?_);rintro e w7 ⟨rfl,hb⟩;have n0_ := Aside0.mk (below_step (by repeat (first | (with_reducible first | exact HB.out | apply below_alloc | apply pw_below_drewN | apply below_drew1) | exact HB.out)) hb);clear HB;have HB := n0_;clear n0_;(try clear hb);(try clear hb2);(try clear hk);(try clear hi)))
   repeat (go_quiet (first | (go_at_call 20;(with_reducible refine (strings_TrimRight.calls a0 (⟨#[57]⟩ : ByteArray) t136 _ A2.out).mono ?_);rintro e w6 ⟨rfl,hb⟩;have n0_ := Aside0.mk (below_step (by repeat (first | (with_reducible first | exact HB.out | apply below_alloc | apply pw_below_drewN | apply below_drew1) | exact HB.out)) hb);clear HB;have HB := n0_;clear n0_;(try clear hb);(try clear hb2);(try clear hk);(try clear hi)) | (go_at_call 31;(with_reducible refine (strings_Repeat.calls (⟨#[48]⟩ : ByteArray) (wrap64 ((a0.size : Int) - (t136.size : Int))) t137 _ A3.out).mono ?_);rintro e w7 ⟨rfl,hb⟩;have n0_ := Aside0.mk (below_step (by repeat (first | (with_reducible first | exact HB.out | apply below_alloc | apply pw_below_drewN | apply below_drew1) | exact HB.out)) hb);clear HB;have HB := n0_;clear n0_;(try clear hb);(try clear hb2);(try clear hk);(try clear hi)));try go_wp2_with (first | (go_at_call 20;(with_reducible refine (strings_TrimRight.calls a0 (⟨#[57]⟩ : ByteArray) t136 _ A2.out).mono ?_);rintro e w6 ⟨rfl,hb⟩;have n0_ := Aside0.mk (below_step (by repeat (first | (with_reducible first | exact HB.out | apply below_alloc | apply pw_below_drewN | apply below_drew1) | exact HB.out)) hb);clear HB;have HB := n0_;clear n0_;(try clear hb);(try clear hb2);(try clear hk);(try clear hi)) | (go_at_call 31;(with_reducible refine (strings_Repeat.calls (⟨#[48]⟩ : ByteArray) (wrap64 ((a0.size : Int) - (t136.size : Int))) t137 _ A3.out).mono ?_);rintro e w7 ⟨rfl,hb⟩;have n0_ := Aside0.mk (below_step (by repeat (first | (with_reducible first | exact HB.out | apply below_alloc | apply pw_below_drewN | apply below_drew1) | exact HB.out)) hb);clear HB;have HB := n0_;clear n0_;(try clear hb);(try clear hb2);(try clear hk);(try clear hi))))
   go_ret
   exact ⟨by first | rfl | (simp [errW_none,errW_some] <;> rfl) | (simp [*,errW_none,errW_some] <;> rfl),by repeat (first | (with_reducible first | exact HB.out | apply below_alloc | apply pw_below_drewN | apply below_drew1) | exact HB.out)⟩
  ·rw [if_neg c5] at H
   exact absurd H (by simp)
 ·rw [if_neg c4] at H
  have c4b0 : (t136.toList == ([] : List UInt8)) = false := beq_eq_false_iff_ne.mpr c4
  have c4b1 : (t136.toList != ([] : List UInt8)) = true := bne_iff_ne.mpr c4
  obtain ⟨ji8,hji8⟩ : ∃ j_ : Int,(wrap64 ((t136.size : Int) - 1)) = j_ := ⟨_,rfl⟩
  replace H : (if 0 ≤ (ji8) then (if (ji8) ≤ (t136.size : Int) then (if (ji8) < (t136.size : Int) then (if (t136.extract 0 ((ji8) : Int).toNat).size + (Utf8.encode (((bt t136 (ji8)) + 1) % 256)).size ≤ 9223372036854775807 then (if ((t136.extract 0 ((ji8) : Int).toNat) ++ (Utf8.encode (((bt t136 (ji8)) + 1) % 256))).size + t137.size ≤ 9223372036854775807 then (some (((t136.extract 0 ((ji8) : Int).toNat) ++ (Utf8.encode (((bt t136 (ji8)) + 1) % 256))) ++ t137)) else (none)) else (none)) else (none)) else (none)) else (none)) = some r := by first | (rw [hji8] at H;exact H) | (simp only [hji8] at H ⊢;exact H)
  (try rw [hji8] at A2)
  (try rw [hji8] at A3)
  have hji8w : (IntKind.i64.wrap ((t136.size : Int) - 1)) = ji8 := (i64_w _).trans hji8
  by_cases c9 : 0 ≤ (ji8)
  ·rw [if_pos c9] at H
   have c9b0 := eq_true c9
   have c9b1 : decide (0 ≤ (ji8)) = true := decide_eq_true c9
   clear c9
   by_cases c10 : (ji8) ≤ (t136.size : Int)
   ·rw [if_pos c10] at H
    have c10b0 := eq_true c10
    have c10b1 : decide ((ji8) ≤ (t136.size : Int)) = true := decide_eq_true c10
    clear c10
    by_cases c11 : (ji8) < (t136.size : Int)
    ·rw [if_pos c11] at H
     have c11b0 : decide ((ji8) < (t136.size : Int)) = true := decide_eq_true c11
     clear c11
     by_cases c13 : (t136.extract 0 ((ji8) : Int).toNat).size + (Utf8.encode (((bt t136 (ji8)) + 1) % 256)).size ≤ 9223372036854775807
     ·rw [if_pos c13] at H
      have c13b0 := eq_true c13
      have c13b1 : decide ((t136.extract 0 ((ji8) : Int).toNat).size + (Utf8.encode (((bt t136 (ji8)) + 1) % 256)).size ≤ 9223372036854775807) = true := decide_eq_true c13
      try have c13b2 : (9223372036854775807 < (t136.extract 0 ((ji8) : Int).toNat).size + (Utf8.encode (((bt t136 (ji8)) + 1) % 256)).size) = False := eq_false (Nat.not_lt.2 c13)
      (try (have c13z := c13;simp [ByteArray.size_extract,ByteArray.size_append,size_lit] at c13z))
      (try (have c13z2 := eq_false (Nat.not_lt.2 c13z)))
      by_cases c14 : ((t136.extract 0 ((ji8) : Int).toNat) ++ (Utf8.encode (((bt t136 (ji8)) + 1) % 256))).size + t137.size ≤ 9223372036854775807
      ·rw [if_pos c14] at H
       have c14b0 := eq_true c14
       have c14b1 : decide (((t136.extract 0 ((ji8) : Int).toNat) ++ (Utf8.encode (((bt t136 (ji8)) + 1) % 256))).size + t137.size ≤ 9223372036854775807) = true := decide_eq_true c14
       try have c14b2 : (9223372036854775807 < ((t136.extract 0 ((ji8) : Int).toNat) ++ (Utf8.encode (((bt t136 (ji8)) + 1) % 256))).size + t137.size) = False := eq_false (Nat.not_lt.2 c14)
       (try (have c14z := c14;simp [ByteArray.size_extract,ByteArray.size_append,size_lit] at c14z))
       (try (have c14z2 := eq_false (Nat.not_lt.2 c14z)))
       obtain rfl := Option.some.inj H
       go_enter Tryz.func46,Tryz.ntmps46
       go_wp2_with (first | (go_at_call 20;(with_reducible refine (strings_TrimRight.calls a0 (⟨#[57]⟩ : ByteArray) t136 _ A2.out).mono ?_);rintro e w15 ⟨rfl,hb⟩;have n0_ := Aside0.mk (below_step (by repeat (first | (with_reducible first | exact HB.out | apply below_alloc | apply pw_below_drewN | apply below_drew1) | exact HB.out)) hb);clear HB;have HB := n0_;clear n0_;(try clear hb);(try clear hb2);(try clear hk);(try clear hi)) | (go_at_call 31;(with_reducible refine (strings_Repeat.calls (⟨#[48]⟩ : ByteArray) (wrap64 ((a0.size : Int) - (t136.size : Int))) t137 _ A3.out).mono ?_);rintro e w16 ⟨rfl,hb⟩;have n0_ := Aside0.mk (below_step (by repeat (first | (with_reducible first | exact HB.out | apply below_alloc | apply pw_below_drewN | apply below_drew1) | exact HB.out)) hb);clear HB;have HB := n0_;clear n0_;(try clear hb);(try clear hb2);(try clear hk);(try clear hi);have p12 : 0 ≤ ((ji8) : Int) := of_decide_eq_true (by first | (with_reducible assumption) | assumption);have q12 : (ji8) < (t136.size : Int) := of_decide_eq_true (by first | (with_reducible assumption) | assumption);have hx12 := bt_at t136 (ji8);replace p12 := eq_true p12;replace q12 := eq_true q12))
       repeat (go_quiet (first | (go_at_call 20;(with_reducible refine (strings_TrimRight.calls a0 (⟨#[57]⟩ : ByteArray) t136 _ A2.out).mono ?_);rintro e w15 ⟨rfl,hb⟩;have n0_ := Aside0.mk (below_step (by repeat (first | (with_reducible first | exact HB.out | apply below_alloc | apply pw_below_drewN | apply below_drew1) | exact HB.out)) hb);clear HB;have HB := n0_;clear n0_;(try clear hb);(try clear hb2);(try clear hk);(try clear hi)) | (go_at_call 31;(with_reducible refine (strings_Repeat.calls (⟨#[48]⟩ : ByteArray) (wrap64 ((a0.size : Int) - (t136.size : Int))) t137 _ A3.out).mono ?_);rintro e w16 ⟨rfl,hb⟩;have n0_ := Aside0.mk (below_step (by repeat (first | (with_reducible first | exact HB.out | apply below_alloc | apply pw_below_drewN | apply below_drew1) | exact HB.out)) hb);clear HB;have HB := n0_;clear n0_;(try clear hb);(try clear hb2);(try clear hk);(try clear hi);have p12 : 0 ≤ ((ji8) : Int) := of_decide_eq_true (by first | (with_reducible assumption) | assumption);have q12 : (ji8) < (t136.size : Int) := of_decide_eq_true (by first | (with_reducible assumption) | assumption);have hx12 := bt_at t136 (ji8);replace p12 := eq_true p12;replace q12 := eq_true q12));try go_wp2_with (first | (go_at_call 20;(with_reducible refine (strings_TrimRight.calls a0 (⟨#[57]⟩ : ByteArray) t136 _ A2.out).mono ?_);rintro e w15 ⟨rfl,hb⟩;have n0_ := Aside0.mk (below_step (by repeat (first | (with_reducible first | exact HB.out | apply below_alloc | apply pw_below_drewN | apply below_drew1) | exact HB.out)) hb);clear HB;have HB := n0_;clear n0_;(try clear hb);(try clear hb2);(try clear hk);(try clear hi)) | (go_at_call 31;(with_reducible refine (strings_Repeat.calls (⟨#[48]⟩ : ByteArray) (wrap64 ((a0.size : Int) - (t136.size : Int))) t137 _ A3.out).mono ?_);rintro e w16 ⟨rfl,hb⟩;have n0_ := Aside0.mk (below_step (by repeat (first | (with_reducible first | exact HB.out | apply below_alloc | apply pw_below_drewN | apply below_drew1) | exact HB.out)) hb);clear HB;have HB := n0_;clear n0_;(try clear hb);(try clear hb2);(try clear hk);(try clear hi);have p12 : 0 ≤ ((ji8) : Int) := of_decide_eq_true (by first | (with_reducible assumption) | assumption);have q12 : (ji8) < (t136.size : Int) := of_decide_eq_true (by first | (with_reducible assumption) | assumption);have hx12 := bt_at t136 (ji8);replace p12 := eq_true p12;replace q12 := eq_true q12)))
       go_ret
       exact ⟨by first | rfl | (simp [errW_none,errW_some] <;> rfl) | (simp only [← hji8];first | rfl | (simp [errW_none,errW_some] <;> rfl)) | (simp [*,errW_none,errW_some] <;> rfl),by repeat (first | (with_reducible first | exact HB.out | apply below_alloc | apply pw_below_drewN | apply below_drew1) | exact HB.out)⟩
      ·rw [if_neg c14] at H
       exact absurd H (by simp)
     ·rw [if_neg c13] at H
      exact absurd H (by simp)
    ·rw [if_neg c11] at H
     exact absurd H (by simp)
   ·rw [if_neg c10] at H
    exact absurd H (by simp)
  ·rw [if_neg c9] at H
   exact absurd H (by simp)

end Go.Proofs.YtneeeaafhjaooaaGreatDoor.P
