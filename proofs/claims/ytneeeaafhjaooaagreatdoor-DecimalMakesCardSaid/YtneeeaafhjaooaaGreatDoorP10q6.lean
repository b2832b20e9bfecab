-- Printed by a program of this session (wip/tools) over the kit's print: not trusted, Lean checks it.
import Derived.Test.YtneeeaafhjaooaaGreatDoorP0q6
import Derived.Test.YtneeeaafhjaooaaGreatDoorProg
import Derived.Test.YtneeeaafhjaooaaGreatDoorElibq6
import Derived.Test.YtneeeaafhjaooaaGreatDoorP7q6
import Derived.Test.YtneeeaafhjaooaaGreatDoorP9q6
import Derived.Test.YtneeeaafhjaooaaGreatDoorLibsq6
namespace Go.Proofs.YtneeeaafhjaooaaGreatDoor.P
set_option linter.all false
open Go.RowKit Go.Proofs.YtneeeaafhjaooaaGreatDoorW.PrintWords Go.Proofs.YtneeeaafhjaooaaGreatDoorW.PrintLast Go.Proofs.YtneeeaafhjaooaaGreatDoorW.PrintMore
attribute [local go_sem] max2_int min2_int max_two min_two max_three min_three max_four min_four   -- for this text's walks alone
attribute [local go_sem] cell_after
set_option linter.unusedVariables false
set_option linter.unusedSimpArgs false

/-! ### tabardref7_Cmp: function 12 -/
mutual
def tabardref7_Cmp.j0 : Nat → Bool → Bool → ByteArray → Int → Bool → ByteArray → Int → Option (Int)
 | 0,_,_,_,_,_,_,_ => none
 | k + 1,x18,x214000,x214001,x214002,x215000,x215001,x215002 => if x18 = true then (some 0) else (if x214000 = true then (tabardref7_Cmp.j1 k (decide ((x214001.size : Int) > 0)) x214000 x214001 x214002 x215000 x215001 x215002) else (tabardref7_Cmp.j1 k false x214000 x214001 x214002 x215000 x215001 x215002))
def tabardref7_Cmp.j1 : Nat → Bool → Bool → ByteArray → Int → Bool → ByteArray → Int → Option (Int)
 | 0,_,_,_,_,_,_,_ => none
 | k + 1,x7,x214000,x214001,x214002,x215000,x215001,x215002 => if x215000 = true then (tabardref7_Cmp.j2 k x7 (decide ((x215001.size : Int) > 0)) x214000 x214001 x214002 x215000 x215001 x215002) else (tabardref7_Cmp.j2 k x7 false x214000 x214001 x214002 x215000 x215001 x215002)
def tabardref7_Cmp.j2 : Nat → Bool → Bool → Bool → ByteArray → Int → Bool → ByteArray → Int → Option (Int)
 | 0,_,_,_,_,_,_,_,_ => none
 | k + 1,x7,x8,x214000,x214001,x214002,x215000,x215001,x215002 => if (x7 != x8) = true then (if x7 = true then (some (-1)) else (some 1)) else (if x7 = true then ((tabardref7_size.f k x215000 x215001 x215002 x214000 x214001 x214002).bind fun t217 => (some t217)) else ((tabardref7_size.f k x214000 x214001 x214002 x215000 x215001 x215002).bind fun t218 => (some t218)))
end
def tabardref7_Cmp.f (k : Nat) (a0_0 : Bool) (a0_1 : ByteArray) (a0_2 : Int) (a1_0 : Bool) (a1_1 : ByteArray) (a1_2 : Int) : Option (Int) := (tabardref7_Right.f k a0_0 a0_1 a0_2).bind fun t215 => ((tabardref7_Right.f k a1_0 a1_1 a1_2).bind fun t216 => (if t215 = true then (tabardref7_Cmp.j0 k (!t216) a0_0 a0_1 a0_2 a1_0 a1_1 a1_2) else (tabardref7_Cmp.j0 k true a0_0 a0_1 a0_2 a1_0 a1_1 a1_2)))
set_option maxHeartbeats 8000000 in
set_option maxRecDepth 100000 in
theorem tabardref7_Cmp.calls (k : Nat) (a0_0 : Bool) (a0_1 : ByteArray) (a0_2 : Int) (a1_0 : Bool) (a1_1 : ByteArray) (a1_2 : Int) (r : Int) (w : World) (h : tabardref7_Cmp.f k a0_0 a0_1 a0_2 a1_0 a1_1 a1_2 = some r) :
  Calls Tryz.prog 12 #[.agg #[.bool a0_0,.string a0_1,.int .i64 a0_2],.agg #[.bool a1_0,.string a1_1,.int .i64 a1_2]] w fun e w' => e = .returned (.int .i64 r) ∧ Below w.heap.size w w' := by
 have hu23 := Tryz.underlying23
 have HB := Aside0.mk (Below.refl w.heap.size w)
 have H : ((tabardref7_Right.f k a0_0 a0_1 a0_2).bind fun t215 => ((tabardref7_Right.f k a1_0 a1_1 a1_2).bind fun t216 => (if t215 = true then (tabardref7_Cmp.j0 k (!t216) a0_0 a0_1 a0_2 a1_0 a1_1 a1_2) else (tabardref7_Cmp.j0 k true a0_0 a0_1 a0_2 a1_0 a1_1 a1_2)))) = some r := h
 clear h
 replace H := Option.bind_eq_some_iff.mp H
 obtain ⟨t215,A30,H⟩ := H
 replace H : ((tabardref7_Right.f k a1_0 a1_1 a1_2).bind fun t216 => (if t215 = true then (tabardref7_Cmp.j0 k (!t216) a0_0 a0_1 a0_2 a1_0 a1_1 a1_2) else (tabardref7_Cmp.j0 k true a0_0 a0_1 a0_2 a1_0 a1_1 a1_2))) = some r := H
 have A3 := Aside0.mk A30
 clear A30
 replace H := Option.bind_eq_some_iff.mp H
 obtain ⟨t216,A40,H⟩ := H
 replace H : (if t215 = true then (tabardref7_Cmp.j0 k (!t216) a0_0 a0_1 a0_2 a1_0 a1_1 a1_2) else (tabardref7_Cmp.j0 k true a0_0 a0_1 a0_2 a1_0 a1_1 a1_2)) = some r := H
 have A4 := Aside0.mk A40
 clear A40
 have HC5 := Aside0.mk H
 clear H
 go_enter Tryz.func12,Tryz.ntmps12
 go_upto_region 3 with (first | ((with_reducible refine gate_dst (N := 2) rfl ?_);(try (refine gate_guard (by rfl) ?_;dsimp only));refine box_event ?hg (N := 2) ?hd (cs := #[.bool a0_0,.string a0_1,.int .i64 a0_2]) (t := 23) ?hr ?_;(case hd => rfl);(case hg => rfl);(case hr => first | (go_simp;done) | (go_simp;rfl));intro gb213 hg w6 hbox hb;have n0_ := Aside0.mk (below_step (by repeat (first | (with_reducible first | exact HB.out | apply below_alloc | apply pw_below_drewN | apply below_drew1) | exact HB.out)) hb);have n1_ := Aside0.mk (hbox);have n2_ := Aside0.mk ((by rw [hg];exact (below_size (by repeat (first | (with_reducible first | exact HB.out | apply below_alloc | apply pw_below_drewN | apply below_drew1) | exact HB.out))) : w.heap.size ≤ gb213));have n3_ := Aside0.mk ((by rw [hg];exact (below_size (by repeat (first | (with_reducible first | exact HB.out | apply below_alloc | apply pw_below_drewN | apply below_drew1) | exact HB.out))) : w.heap.size ≤ gb213));clear HB;have HB := n0_;have BK213 := n1_;have GW213 := n2_;have GE213 := n3_;clear n0_ n1_ n2_ n3_;clear hb hbox hg) | ((with_reducible refine gate_dst (N := 3) rfl ?_);(try (refine gate_guard (by rfl) ?_;dsimp only));refine box_event ?hg (N := 3) ?hd (cs := #[.bool a1_0,.string a1_1,.int .i64 a1_2]) (t := 23) ?hr ?_;(case hd => rfl);(case hg => rfl);(case hr => first | (go_simp;done) | (go_simp;rfl));intro gb214 hg w7 hbox hb;have n0_ := Aside0.mk (blk_below (g := gb213) (o := .cells #[.bool a0_0,.string a0_1,.int .i64 a0_2] 23 (0,0)) (by (with_reducible repeat (first | refine blk_drewN ?_ _ | refine blk_drew ?_ | refine blk_alloc ?_ _));exact BK213.out) hb);have n1_ := Aside0.mk (below_step (by repeat (first | (with_reducible first | exact HB.out | apply below_alloc | apply pw_below_drewN | apply below_drew1 | refine below_set ?_ GE213.out) | exact HB.out)) hb);have n2_ := Aside0.mk (hbox);have n3_ := Aside0.mk ((by rw [hg];exact (below_size (by repeat (first | (with_reducible first | exact HB.out | apply below_alloc | apply pw_below_drewN | apply below_drew1 | refine below_set ?_ GE213.out) | exact HB.out))) : w.heap.size ≤ gb214));have n4_ := Aside0.mk ((by rw [hg];exact (below_size (by repeat (first | (with_reducible first | exact HB.out | apply below_alloc | apply pw_below_drewN | apply below_drew1 | refine below_set ?_ GE213.out) | exact HB.out))) : w.heap.size ≤ gb214));have n5_ := Aside0.mk ((by rw [hg];exact Nat.ne_of_lt (blk_lt (g := gb213) (o := .cells #[.bool a0_0,.string a0_1,.int .i64 a0_2] 23 (0,0)) (by (with_reducible repeat (first | refine blk_drewN ?_ _ | refine blk_drew ?_ | refine blk_alloc ?_ _));exact BK213.out)) : gb213 ≠ gb214));have n6_ := Aside0.mk ((by rw [hg];exact Nat.ne_of_gt (blk_lt (g := gb213) (o := .cells #[.bool a0_0,.string a0_1,.int .i64 a0_2] 23 (0,0)) (by (with_reducible repeat (first | refine blk_drewN ?_ _ | refine blk_drew ?_ | refine blk_alloc ?_ _));exact BK213.out)) : gb214 ≠ gb213));clear BK213;clear HB;have BK213 := n0_;have HB := n1_;have BK214 := n2_;have GW214 := n3_;have GE214 := n4_;have NB213_214 := n5_;have NB214_213 := n6_;clear n0_ n1_ n2_ n3_ n4_ n5_ n6_;clear hb hbox hg;have hnb8 := NB213_214.out;have hnc8 := NB214_213.out;have hcz9_0 : w7.cell? ⟨gb213,0,none⟩ = some (.bool a0_0) := (blk_cell BK213.out 0).trans rfl;have hcz9_1 : w7.cell? ⟨gb213,1,none⟩ = some (.string a0_1) := (blk_cell BK213.out 1).trans rfl;have hcz9_2 : w7.cell? ⟨gb213,2,none⟩ = some (.int .i64 a0_2) := (blk_cell BK213.out 2).trans rfl;have hfz9_0 := blk_frozen BK213.out 0;have hfz9_1 := blk_frozen BK213.out 1;have hfz9_2 := blk_frozen BK213.out 2) | ((with_reducible refine gate_callee (f := 8) rfl ?_);refine goesL_ (some 10) rfl rfl Tryz.func8 (by kernel_rfl) rfl #[.agg #[.bool a0_0,.string a0_1,.int .i64 a0_2]] rfl (by (try simp only [List.map_toArray,List.map_cons,List.map_nil]);first | done | rfl | (simp only [List.length_drop,List.length_take];rfl)) ?_;(with_reducible refine (tabardref7_Right.calls k a0_0 a0_1 a0_2 t215 _ A3.out).mono ?_);rintro e w10 ⟨rfl,hb⟩;refine ⟨_,rfl,?_⟩;have n0_ := Aside0.mk (blk_below (g := gb213) (o := .cells #[.bool a0_0,.string a0_1,.int .i64 a0_2] 23 (0,0)) (by (with_reducible repeat (first | refine blk_drewN ?_ _ | refine blk_drew ?_ | refine blk_alloc ?_ _));exact BK213.out) hb);have n1_ := Aside0.mk (blk_below (g := gb214) (o := .cells #[.bool a1_0,.string a1_1,.int .i64 a1_2] 23 (0,0)) (by (with_reducible repeat (first | refine blk_drewN ?_ _ | refine blk_drew ?_ | refine blk_alloc ?_ _));exact BK214.out) hb);have n2_ := Aside0.mk (below_step (by repeat (first | (with_reducible first | exact HB.out | apply below_alloc | apply pw_below_drewN | apply below_drew1 | refine below_set ?_ GE213.out | refine below_set ?_ GE214.out) | exact HB.out)) hb);clear BK213;clear BK214;clear HB;have BK213 := n0_;have BK214 := n1_;have HB := n2_;clear n0_ n1_ n2_;(try clear hb);(try clear hb2);(try clear hk);(try clear hi);have hcz11_0 : w10.cell? ⟨gb214,0,none⟩ = some (.bool a1_0) := (blk_cell BK214.out 0).trans rfl;have hcz11_1 : w10.cell? ⟨gb214,1,none⟩ = some (.string a1_1) := (blk_cell BK214.out 1).trans rfl;have hcz11_2 : w10.cell? ⟨gb214,2,none⟩ = some (.int .i64 a1_2) := (blk_cell BK214.out 2).trans rfl;have hfz11_0 := blk_frozen BK214.out 0;have hfz11_1 := blk_frozen BK214.out 1;have hfz11_2 := blk_frozen BK214.out 2) | ((with_reducible refine gate_callee (f := 8) rfl ?_);refine goesL_ (some 12) rfl rfl Tryz.func8 (by kernel_rfl) rfl #[.agg #[.bool a1_0,.string a1_1,.int .i64 a1_2]] rfl (by (try simp only [List.map_toArray,List.map_cons,List.map_nil]);first | done | rfl | (simp only [List.length_drop,List.length_take];rfl)) ?_;(with_reducible refine (tabardref7_Right.calls k a1_0 a1_1 a1_2 t216 _ A4.out).mono ?_);rintro e w12 ⟨rfl,hb⟩;refine ⟨_,rfl,?_⟩;have n0_ := Aside0.mk (blk_below (g := gb213) (o := .cells #[.bool a0_0,.string a0_1,.int .i64 a0_2] 23 (0,0)) (by (with_reducible repeat (first | refine blk_drewN ?_ _ | refine blk_drew ?_ | refine blk_alloc ?_ _));exact BK213.out) hb);have n1_ := Aside0.mk (blk_below (g := gb214) (o := .cells #[.bool a1_0,.string a1_1,.int .i64 a1_2] 23 (0,0)) (by (with_reducible repeat (first | refine blk_drewN ?_ _ | refine blk_drew ?_ | refine blk_alloc ?_ _));exact BK214.out) hb);have n2_ := Aside0.mk (below_step (by repeat (first | (with_reducible first | exact HB.out | apply below_alloc | apply pw_below_drewN | apply below_drew1 | refine below_set ?_ GE213.out | refine below_set ?_ GE214.out) | exact HB.out)) hb);clear BK213;clear BK214;clear HB;have BK213 := n0_;have BK214 := n1_;have HB := n2_;clear n0_ n1_ n2_;(try clear hb);(try clear hb2);(try clear hk);(try clear hi)))
 (try simp only [Act.put,List.setIfInBounds_toArray,List.set_cons_zero,List.set_cons_succ])
 go_cut [18] (fun v18 wc => ∃ (kq : Nat) (x18_4 : Bool),v18 = .bool x18_4 ∧ Aside0 (tabardref7_Cmp.j0 kq x18_4 a0_0 a0_1 a0_2 a1_0 a1_1 a1_2 = some r) ∧ Aside0 (kq ≤ k) ∧ Aside0 (wc.heap[gb213]? = some (.cells #[.bool a0_0,.string a0_1,.int .i64 a0_2] 23 (0,0))) ∧ Aside0 (wc.heap[gb214]? = some (.cells #[.bool a1_0,.string a1_1,.int .i64 a1_2] 23 (0,0))) ∧ Aside0 (Below w.heap.size w wc))
 case first =>
  have H := HC5.out
  clear HC5
  by_cases c13 : t215 = true
  ·subst c13
   have H1 : (tabardref7_Cmp.j0 k (!t216) a0_0 a0_1 a0_2 a1_0 a1_1 a1_2) = some r := by rw [if_pos rfl] at H;exact H
   clear H
   have H := H1
   clear H1
   have H' := Aside0.mk H
   clear H
   go_wp2
   go_meet
   case rel => exact ⟨_,(!t216),(by first | rfl | (simp;done) | (simp [*];done)),H',⟨by first | omega | exact Nat.le_refl _⟩,⟨by (with_reducible repeat (first | refine blk_drewN ?_ _ | refine blk_drew ?_ | refine blk_alloc ?_ _));exact BK213.out⟩,⟨by (with_reducible repeat (first | refine blk_drewN ?_ _ | refine blk_drew ?_ | refine blk_alloc ?_ _));exact BK214.out⟩,⟨by repeat (first | (with_reducible first | exact HB.out | apply below_alloc | apply pw_below_drewN | apply below_drew1 | refine below_set ?_ GE213.out | refine below_set ?_ GE214.out) | exact HB.out)⟩⟩
  ·replace c13 := Bool.eq_false_iff.mpr c13
   subst c13
   have H1 : (tabardref7_Cmp.j0 k true a0_0 a0_1 a0_2 a1_0 a1_1 a1_2) = some r := by rw [if_neg (show ¬ (false = true) by decide)] at H;exact H
   clear H
   have H := H1
   clear H1
   have H' := Aside0.mk H
   clear H
   go_wp2
   go_meet
   case rel => exact ⟨_,(true),(by first | rfl | (simp;done) | (simp [*];done)),H',⟨by first | omega | exact Nat.le_refl _⟩,⟨by (with_reducible repeat (first | refine blk_drewN ?_ _ | refine blk_drew ?_ | refine blk_alloc ?_ _));exact BK213.out⟩,⟨by (with_reducible repeat (first | refine blk_drewN ?_ _ | refine blk_drew ?_ | refine blk_alloc ?_ _));exact BK214.out⟩,⟨by repeat (first | (with_reducible first | exact HB.out | apply below_alloc | apply pw_below_drewN | apply below_drew1 | refine below_set ?_ GE213.out | refine below_set ?_ GE214.out) | exact HB.out)⟩⟩
 case rest =>
  clear HC5
  try clear c1
  try clear p2
  try clear c8
  try clear c12
  try clear c13
  try clear hcz11_0
  try clear hcz11_1
  try clear hcz11_2
  try clear hcz9_0
  try clear hcz9_1
  try clear hcz9_2
  try clear hfz11_0
  try clear hfz11_1
  try clear hfz11_2
  try clear hfz9_0
  try clear hfz9_1
  try clear hfz9_2
  obtain ⟨kq,x18_4,rfl,HA,HJ4,BK213,BK214,HB⟩ := hcut
  cases kq with
  | zero => exact absurd HA.out (by simp [tabardref7_Cmp.j0])
  | succ kj4 =>
   have H := HA.out
   clear HA
   simp only [tabardref7_Cmp.j0] at H
   by_cases c14 : x18_4 = true
   ·subst c14
    have H1 : (some 0) = some r := by rw [if_pos rfl] at H;exact H
    clear H
    have H := H1
    clear H1
    obtain rfl := Option.some.inj H
    go_wp2
    go_ret
    exact ⟨by first | rfl | (simp [errW_none,errW_some] <;> rfl) | (simp [*,errW_none,errW_some] <;> rfl),by repeat (first | (with_reducible first | exact HB.out | apply below_alloc | apply pw_below_drewN | apply below_drew1 | refine below_set ?_ GE213.out | refine below_set ?_ GE214.out) | exact HB.out)⟩
   ·replace c14 := Bool.eq_false_iff.mpr c14
    subst c14
    have H1 : (if a0_0 = true then (tabardref7_Cmp.j1 kj4 (decide ((a0_1.size : Int) > 0)) a0_0 a0_1 a0_2 a1_0 a1_1 a1_2) else (tabardref7_Cmp.j1 kj4 false a0_0 a0_1 a0_2 a1_0 a1_1 a1_2)) = some r := by rw [if_neg (show ¬ (false = true) by decide)] at H;exact H
    clear H
    have H := H1
    clear H1
    have HC15 := Aside0.mk H
    clear H
    go_upto_region 5 with (fail)
    go_cut [7] (fun v7 wc => ∃ (kq : Nat) (x7_14 : Bool),v7 = .bool x7_14 ∧ Aside0 (tabardref7_Cmp.j1 kq x7_14 a0_0 a0_1 a0_2 a1_0 a1_1 a1_2 = some r) ∧ Aside0 (kq ≤ kj4) ∧ Aside0 (wc.heap[gb213]? = some (.cells #[.bool a0_0,.string a0_1,.int .i64 a0_2] 23 (0,0))) ∧ Aside0 (wc.heap[gb214]? = some (.cells #[.bool a1_0,.string a1_1,.int .i64 a1_2] 23 (0,0))) ∧ Aside0 (Below w.heap.size w wc))
    case first =>
     have H := HC15.out
     clear HC15
     by_cases c16 : a0_0 = true
     ·subst c16
      have H1 : (tabardref7_Cmp.j1 kj4 (decide ((a0_1.size : Int) > 0)) true a0_1 a0_2 a1_0 a1_1 a1_2) = some r := by rw [if_pos rfl] at H;exact H
      clear H
      have H := H1
      clear H1
      have H' := Aside0.mk H
      clear H
      have hnb17 := NB213_214.out
      have hnc17 := NB214_213.out
      have hcz18_0 : wc.cell? ⟨gb213,0,none⟩ = some (.bool true) := (blk_cell BK213.out 0).trans rfl
      have hcz18_1 : wc.cell? ⟨gb213,1,none⟩ = some (.string a0_1) := (blk_cell BK213.out 1).trans rfl
      have hcz18_2 : wc.cell? ⟨gb213,2,none⟩ = some (.int .i64 a0_2) := (blk_cell BK213.out 2).trans rfl
      have hfz18_0 := blk_frozen BK213.out 0
      have hfz18_1 := blk_frozen BK213.out 1
      have hfz18_2 := blk_frozen BK213.out 2
      go_wp2
      go_meet
      case rel => exact ⟨_,(decide ((a0_1.size : Int) > 0)),(by first | rfl | (simp;done) | (simp [*];done)),H',⟨by have := HJ4.out;first | omega | exact Nat.le_refl _⟩,⟨by (with_reducible repeat (first | refine blk_drewN ?_ _ | refine blk_drew ?_ | refine blk_alloc ?_ _));exact BK213.out⟩,⟨by (with_reducible repeat (first | refine blk_drewN ?_ _ | refine blk_drew ?_ | refine blk_alloc ?_ _));exact BK214.out⟩,⟨by repeat (first | (with_reducible first | exact HB.out | apply below_alloc | apply pw_below_drewN | apply below_drew1 | refine below_set ?_ GE213.out | refine below_set ?_ GE214.out) | exact HB.out)⟩⟩
     ·replace c16 := Bool.eq_false_iff.mpr c16
      subst c16
      have H1 : (tabardref7_Cmp.j1 kj4 false false a0_1 a0_2 a1_0 a1_1 a1_2) = some r := by rw [if_neg (show ¬ (false = true) by decide)] at H;exact H
      clear H
      have H := H1
      clear H1
      have H' := Aside0.mk H
      clear H
      have hnb19 := NB213_214.out
      have hnc19 := NB214_213.out
      have hcz20_0 : wc.cell? ⟨gb213,0,none⟩ = some (.bool false) := (blk_cell BK213.out 0).trans rfl
      have hcz20_1 : wc.cell? ⟨gb213,1,none⟩ = some (.string a0_1) := (blk_cell BK213.out 1).trans rfl
      have hcz20_2 : wc.cell? ⟨gb213,2,none⟩ = some (.int .i64 a0_2) := (blk_cell BK213.out 2).trans rfl
      have hfz20_0 := blk_frozen BK213.out 0
      have hfz20_1 := blk_frozen BK213.out 1
      have hfz20_2 := blk_frozen BK213.out 2
      go_wp2
      go_meet
      case rel => exact ⟨_,(false),(by first | rfl | (simp;done) | (simp [*];done)),H',⟨by have := HJ4.out;first | omega | exact Nat.le_refl _⟩,⟨by (with_reducible repeat (first | refine blk_drewN ?_ _ | refine blk_drew ?_ | refine blk_alloc ?_ _));exact BK213.out⟩,⟨by (with_reducible repeat (first | refine blk_drewN ?_ _ | refine blk_drew ?_ | refine blk_alloc ?_ _));exact BK214.out⟩,⟨by repeat (first | (with_reducible first | exact HB.out | apply below_alloc | apply pw_below_drewN | apply below_drew1 | refine below_set ?_ GE213.out | refine below_set ?_ GE214.out) | exact HB.out)⟩⟩
    case rest =>
     clear HC15
     try clear c1
     try clear p2
     try clear c8
     try clear c12
     try clear c13
     try clear c14
     try clear c16
     try clear c17
     try clear c19
     try clear hcz11_0
     try clear hcz11_1
     try clear hcz11_2
     try clear hcz18_0
     try clear hcz18_1
     try clear hcz18_2
     try clear hcz20_0
     try clear hcz20_1
     try clear hcz20_2
     try clear hcz9_0
     try clear hcz9_1
     try clear hcz9_2
     try clear hfz11_0
     try clear hfz11_1
     try clear hfz11_2
     try clear hfz18_0
     try clear hfz18_1
     try clear hfz18_2
     try clear hfz20_0
     try clear hfz20_1
     try clear hfz20_2
     try clear hfz9_0
     try clear hfz9_1
     try clear hfz9_2
     try clear p2
     obtain ⟨kq,x7_14,rfl,HA,HJ14,BK213,BK214,HB⟩ := hcut
     cases kq with
     | zero => exact absurd HA.out (by simp [tabardref7_Cmp.j1])
     | succ kj14 =>
      have H := HA.out
      clear HA
      simp only [tabardref7_Cmp.j1] at H
      have HC21 := Aside0.mk H
      clear H
      go_upto_region 6 with (fail)
      go_cut [8] (fun v8 wc => ∃ (kq : Nat) (x8_20 : Bool),v8 = .bool x8_20 ∧ Aside0 (tabardref7_Cmp.j2 kq x7_14 x8_20 a0_0 a0_1 a0_2 a1_0 a1_1 a1_2 = some r) ∧ Aside0 (kq ≤ kj14) ∧ Aside0 (wc.heap[gb213]? = some (.cells #[.bool a0_0,.string a0_1,.int .i64 a0_2] 23 (0,0))) ∧ Aside0 (wc.heap[gb214]? = some (.cells #[.bool a1_0,.string a1_1,.int .i64 a1_2] 23 (0,0))) ∧ Aside0 (Below w.heap.size w wc))
      case first =>
       have H := HC21.out
       clear HC21
       by_cases c22 : a1_0 = true
       ·subst c22
        have H1 : (tabardref7_Cmp.j2 kj14 x7_14 (decide ((a1_1.size : Int) > 0)) a0_0 a0_1 a0_2 true a1_1 a1_2) = some r := by rw [if_pos rfl] at H;exact H
        clear H
        have H := H1
        clear H1
        have H' := Aside0.mk H
        clear H
        have hnb23 := NB214_213.out
        have hnc23 := NB213_214.out
        have hcz24_0 : wc.cell? ⟨gb214,0,none⟩ = some (.bool true) := (blk_cell BK214.out 0).trans rfl
        have hcz24_1 : wc.cell? ⟨gb214,1,none⟩ = some (.string a1_1) := (blk_cell BK214.out 1).trans rfl
        have hcz24_2 : wc.cell? ⟨gb214,2,none⟩ = some (.int .i64 a1_2) := (blk_cell BK214.out 2).trans rfl
        have hfz24_0 := blk_frozen BK214.out 0
        have hfz24_1 := blk_frozen BK214.out 1
        have hfz24_2 := blk_frozen BK214.out 2
        go_wp2
        go_meet
        case rel => exact ⟨_,(decide ((a1_1.size : Int) > 0)),(by first | rfl | (simp;done) | (simp [*];done)),H',⟨by have := HJ4.out;have := HJ14.out;first | omega | exact Nat.le_refl _⟩,⟨by (with_reducible repeat (first | refine blk_drewN ?_ _ | refine blk_drew ?_ | refine blk_alloc ?_ _));exact BK213.out⟩,⟨by (with_reducible repeat (first | refine blk_drewN ?_ _ | refine blk_drew ?_ | refine blk_alloc ?_ _));exact BK214.out⟩,⟨by repeat (first | (with_reducible first | exact HB.out | apply below_alloc | apply pw_below_drewN | apply below_drew1 | refine below_set ?_ GE213.out | refine below_set ?_ GE214.out) | exact HB.out)⟩⟩
       ·replace c22 := Bool.eq_false_iff.mpr c22
        subst c22
        have H1 : (tabardref7_Cmp.j2 kj14 x7_14 false a0_0 a0_1 a0_2 false a1_1 a1_2) = some r := by rw [if_neg (show ¬ (false = true) by decide)] at H;exact H
        clear H
        have H := H1
        clear H1
        have H' := Aside0.mk H
        clear H
        have hnb25 := NB214_213.out
        have hnc25 := NB213_214.out
        have hcz26_0 : wc.cell? ⟨gb214,0,none⟩ = some (.bool false) := (blk_cell BK214.out 0).trans rfl
        have hcz26_1 : wc.cell? ⟨gb214,1,none⟩ = some (.string a1_1) := (blk_cell BK214.out 1).trans rfl
        have hcz26_2 : wc.cell? ⟨gb214,2,none⟩ = some (.int .i64 a1_2) := (blk_cell BK214.out 2).trans rfl
        have hfz26_0 := blk_frozen BK214.out 0
        have hfz26_1 := blk_frozen BK214.out 1
        have hfz26_2 := blk_frozen BK214.out 2
        go_wp2
        go_meet
        case rel => exact ⟨_,(false),(by first | rfl | (simp;done) | (simp [*];done)),H',⟨by have := HJ4.out;have := HJ14.out;first | omega | exact Nat.le_refl _⟩,⟨by (with_reducible repeat (first | refine blk_drewN ?_ _ | refine blk_drew ?_ | refine blk_alloc ?_ _));exact BK213.out⟩,⟨by (with_reducible repeat (first | refine blk_drewN ?_ _ | refine blk_drew ?_ | refine blk_alloc ?_ _));exact BK214.out⟩,⟨by repeat (first | (with_reducible first | exact HB.out | apply below_alloc | apply pw_below_drewN | apply below_drew1 | refine below_set ?_ GE213.out | refine below_set ?_ GE214.out) | exact HB.out)⟩⟩
      case rest =>
       clear HC21
       try clear c1
       try clear c2
       try clear p2
       try clear c8
       try clear c12
       try clear c13
       try clear c14
       try clear c16
       try clear c17
       try clear c19
       try clear c22
       try clear c23
       try clear c25
       try clear hcz11_0
       try clear hcz11_1
       try clear hcz11_2
       try clear hcz18_0
       try clear hcz18_1
       try clear hcz18_2
       try clear hcz20_0
       try clear hcz20_1
       try clear hcz20_2
       try clear hcz24_0
       try clear hcz24_1
       try clear hcz24_2
       try clear hcz26_0
       try clear hcz26_1
       try clear hcz26_2
       try clear hcz9_0
       try clear hcz9_1
       try clear hcz9_2
       try clear hfz11_0
       try clear hfz11_1
       try clear hfz11_2
       try clear hfz18_0
       try clear hfz18_1
       try clear hfz18_2
       try clear hfz20_0
       try clear hfz20_1
       try clear hfz20_2
       try clear hfz24_0
       try clear hfz24_1
       try clear hfz24_2
       try clear hfz26_0
       try clear hfz26_1
       try clear hfz26_2
       try clear hfz9_0
       try clear hfz9_1
       try clear hfz9_2
       try clear p2
       obtain ⟨kq,x8_20,rfl,HA,HJ20,BK213,BK214,HB⟩ := hcut
       cases kq with
       | zero => exact absurd HA.out (by simp [tabardref7_Cmp.j2])
       | succ kj20 =>
        have H := HA.out
        clear HA
        simp only [tabardref7_Cmp.j2] at H
        by_cases c27 : (x7_14 != x8_20) = true
        ·rw [if_pos c27] at H
         have c27b0 : (x7_14 != x8_20) = true := c27
         (try (have c27b1 : decide (x7_14 = x8_20) = false := by simpa using c27))
         (try (have c27b2 : (x7_14 == x8_20) = false := by simpa using c27))
         (try (have c27b3 : ¬ (x7_14 = x8_20) := by simpa using c27))
         clear c27
         by_cases c28 : x7_14 = true
         ·subst c28
          have H1 : (some (-1)) = some r := by rw [if_pos rfl] at H;exact H
          clear H
          have H := H1
          clear H1
          obtain rfl := Option.some.inj H
          go_wp2
          go_ret
          exact ⟨by first | rfl | (simp [errW_none,errW_some] <;> rfl) | (simp [*,errW_none,errW_some] <;> rfl),by repeat (first | (with_reducible first | exact HB.out | apply below_alloc | apply pw_below_drewN | apply below_drew1 | refine below_set ?_ GE213.out | refine below_set ?_ GE214.out) | exact HB.out)⟩
         ·replace c28 := Bool.eq_false_iff.mpr c28
          subst c28
          have H1 : (some 1) = some r := by rw [if_neg (show ¬ (false = true) by decide)] at H;exact H
          clear H
          have H := H1
          clear H1
          obtain rfl := Option.some.inj H
          go_wp2
          go_ret
          exact ⟨by first | rfl | (simp [errW_none,errW_some] <;> rfl) | (simp [*,errW_none,errW_some] <;> rfl),by repeat (first | (with_reducible first | exact HB.out | apply below_alloc | apply pw_below_drewN | apply below_drew1 | refine below_set ?_ GE213.out | refine below_set ?_ GE214.out) | exact HB.out)⟩
        ·rw [if_neg c27] at H
         have c27b0 : (x7_14 != x8_20) = false := by simpa using c27
         (try (have c27b1 : decide (x7_14 = x8_20) = true := by simpa using c27))
         (try (have c27b2 : (x7_14 == x8_20) = true := by simpa using c27))
         clear c27
         by_cases c29 : x7_14 = true
         ·subst c29
          have H1 : ((tabardref7_size.f kj20 a1_0 a1_1 a1_2 a0_0 a0_1 a0_2).bind fun t217 => (some t217)) = some r := by rw [if_pos rfl] at H;exact H
          clear H
          have H := H1
          clear H1
          replace H := Option.bind_eq_some_iff.mp H
          obtain ⟨t217,A300,H⟩ := H
          replace H : (some t217) = some r := H
          have A30 := Aside0.mk A300
          clear A300
          obtain rfl := Option.some.inj H
          have hnb31 := NB214_213.out
          have hnc31 := NB213_214.out
          have hcz32_0 : wc.cell? ⟨gb214,0,none⟩ = some (.bool a1_0) := (blk_cell BK214.out 0).trans rfl
          have hcz32_1 : wc.cell? ⟨gb214,1,none⟩ = some (.string a1_1) := (blk_cell BK214.out 1).trans rfl
          have hcz32_2 : wc.cell? ⟨gb214,2,none⟩ = some (.int .i64 a1_2) := (blk_cell BK214.out 2).trans rfl
          have hfz32_0 := blk_frozen BK214.out 0
          have hfz32_1 := blk_frozen BK214.out 1
          have hfz32_2 := blk_frozen BK214.out 2
          have hcz33_0 : wc.cell? ⟨gb213,0,none⟩ = some (.bool a0_0) := (blk_cell BK213.out 0).trans rfl
          have hcz33_1 : wc.cell? ⟨gb213,1,none⟩ = some (.string a0_1) := (blk_cell BK213.out 1).trans rfl
          have hcz33_2 : wc.cell? ⟨gb213,2,none⟩ = some (.int .i64 a0_2) := (blk_cell BK213.out 2).trans rfl
          have hfz33_0 := blk_frozen BK213.out 0
          have hfz33_1 := blk_frozen BK213.out 1
          have hfz33_2 := blk_frozen BK213.out 2
          go_wp2_with (first | ((with_reducible refine gate_callee (f := 26) rfl ?_);refine goesL_ (some 42) rfl rfl Tryz.func26 (by kernel_rfl) rfl #[.agg #[.bool a1_0,.string a1_1,.int .i64 a1_2],.agg #[.bool a0_0,.string a0_1,.int .i64 a0_2]] rfl (by (try simp only [List.map_toArray,List.map_cons,List.map_nil]);first | done | rfl | (simp only [List.length_drop,List.length_take];rfl)) ?_;(with_reducible refine (tabardref7_size.calls kj20 a1_0 a1_1 a1_2 a0_0 a0_1 a0_2 t217 _ A30.out).mono ?_);rintro e w34 ⟨rfl,hb⟩;refine ⟨_,rfl,?_⟩;have n0_ := Aside0.mk (blk_below (g := gb213) (o := .cells #[.bool a0_0,.string a0_1,.int .i64 a0_2] 23 (0,0)) (by (with_reducible repeat (first | refine blk_drewN ?_ _ | refine blk_drew ?_ | refine blk_alloc ?_ _));exact BK213.out) hb);have n1_ := Aside0.mk (blk_below (g := gb214) (o := .cells #[.bool a1_0,.string a1_1,.int .i64 a1_2] 23 (0,0)) (by (with_reducible repeat (first | refine blk_drewN ?_ _ | refine blk_drew ?_ | refine blk_alloc ?_ _));exact BK214.out) hb);have n2_ := Aside0.mk (below_step (by repeat (first | (with_reducible first | exact HB.out | apply below_alloc | apply pw_below_drewN | apply below_drew1 | refine below_set ?_ GE213.out | refine below_set ?_ GE214.out) | exact HB.out)) hb);clear BK213;clear BK214;clear HB;have BK213 := n0_;have BK214 := n1_;have HB := n2_;clear n0_ n1_ n2_;(try clear hb);(try clear hb2);(try clear hk);(try clear hi)))
          go_ret
          exact ⟨by first | rfl | (simp [errW_none,errW_some] <;> rfl) | (simp [*,errW_none,errW_some] <;> rfl),by repeat (first | (with_reducible first | exact HB.out | apply below_alloc | apply pw_below_drewN | apply below_drew1 | refine below_set ?_ GE213.out | refine below_set ?_ GE214.out) | exact HB.out)⟩
         ·replace c29 := Bool.eq_false_iff.mpr c29
          subst c29
          have H1 : ((tabardref7_size.f kj20 a0_0 a0_1 a0_2 a1_0 a1_1 a1_2).bind fun t218 => (some t218)) = some r := by rw [if_neg (show ¬ (false = true) by decide)] at H;exact H
          clear H
          have H := H1
          clear H1
          replace H := Option.bind_eq_some_iff.mp H
          obtain ⟨t218,A350,H⟩ := H
          replace H : (some t218) = some r := H
          have A35 := Aside0.mk A350
          clear A350
          obtain rfl := Option.some.inj H
          have hnb36 := NB213_214.out
          have hnc36 := NB214_213.out
          have hcz37_0 : wc.cell? ⟨gb213,0,none⟩ = some (.bool a0_0) := (blk_cell BK213.out 0).trans rfl
          have hcz37_1 : wc.cell? ⟨gb213,1,none⟩ = some (.string a0_1) := (blk_cell BK213.out 1).trans rfl
          have hcz37_2 : wc.cell? ⟨gb213,2,none⟩ = some (.int .i64 a0_2) := (blk_cell BK213.out 2).trans rfl
          have hfz37_0 := blk_frozen BK213.out 0
          have hfz37_1 := blk_frozen BK213.out 1
          have hfz37_2 := blk_frozen BK213.out 2
          have hcz38_0 : wc.cell? ⟨gb214,0,none⟩ = some (.bool a1_0) := (blk_cell BK214.out 0).trans rfl
          have hcz38_1 : wc.cell? ⟨gb214,1,none⟩ = some (.string a1_1) := (blk_cell BK214.out 1).trans rfl
          have hcz38_2 : wc.cell? ⟨gb214,2,none⟩ = some (.int .i64 a1_2) := (blk_cell BK214.out 2).trans rfl
          have hfz38_0 := blk_frozen BK214.out 0
          have hfz38_1 := blk_frozen BK214.out 1
          have hfz38_2 := blk_frozen BK214.out 2
          go_wp2_with (first | ((with_reducible refine gate_callee (f := 26) rfl ?_);refine goesL_ (some 45) rfl rfl Tryz.func26 (by kernel_rfl) rfl #[.agg #[.bool a0_0,.string a0_1,.int .i64 a0_2],.agg #[.bool a1_0,.string a1_1,.int .i64 a1_2]] rfl (by (try simp only [List.map_toArray,List.map_cons,List.map_nil]);first | done | rfl | (simp only [List.length_drop,List.length_take];rfl)) ?_;(with_reducible refine (tabardref7_size.calls kj20 a0_0 a0_1 a0_2 a1_0 a1_1 a1_2 t218 _ A35.out).mono ?_);rintro e w39 ⟨rfl,hb⟩;refine ⟨_,rfl,?_⟩;have n0_ := Aside0.mk (blk_below (g := gb213) (o := .cells #[.bool a0_0,.string a0_1,.int .i64 a0_2] 23 (0,0)) (by (with_reducible repeat (first | refine blk_drewN ?_ _ | refine blk_drew ?_ | refine blk_alloc ?_ _));exact BK213.out) hb);have n1_ := Aside0.mk (blk_below (g := gb214) (o := .cells #[.bool a1_0,.string a1_1,.int .i64 a1_2] 23 (0,0)) (by (with_reducible repeat (first | refine blk_drewN ?_ _ | refine blk_drew ?_ | refine blk_alloc ?_ _));exact BK214.out) hb);have n2_ := Aside0.mk (below_step (by repeat (first | (with_reducible first | exact HB.out | apply below_alloc | apply pw_below_drewN | apply below_drew1 | refine below_set ?_ GE213.out | refine below_set ?_ GE214.out) | exact HB.out)) hb);clear BK213;clear BK214;clear HB;have BK213 := n0_;have BK214 := n1_;have HB := n2_;clear n0_ n1_ n2_;(try clear hb);(try clear hb2);(try clear hk);(try clear hi)))
          go_ret
          exact ⟨by first | rfl | (simp [errW_none,errW_some] <;> rfl) | (simp [*,errW_none,errW_some] <;> rfl),by repeat (first | (with_reducible first | exact HB.out | apply below_alloc | apply pw_below_drewN | apply below_drew1 | refine below_set ?_ GE213.out | refine below_set ?_ GE214.out) | exact HB.out)⟩

end Go.Proofs.YtneeeaafhjaooaaGreatDoor.P
