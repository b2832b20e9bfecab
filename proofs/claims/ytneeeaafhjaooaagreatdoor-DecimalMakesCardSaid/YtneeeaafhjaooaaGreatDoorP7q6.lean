-- Printed by a program of this session (wip/tools) over the kit's print: not trusted, Lean checks it.
import Derived.Test.YtneeeaafhjaooaaGreatDoorP0q6
import Derived.Test.YtneeeaafhjaooaaGreatDoorProg
import Derived.Test.YtneeeaafhjaooaaGreatDoorElibq6
import Derived.Test.YtneeeaafhjaooaaGreatDoorLibsq6
namespace Go.Proofs.YtneeeaafhjaooaaGreatDoor.P
set_option linter.all false
open Go.RowKit Go.Proofs.YtneeeaafhjaooaaGreatDoorW.PrintWords Go.Proofs.YtneeeaafhjaooaaGreatDoorW.PrintLast Go.Proofs.YtneeeaafhjaooaaGreatDoorW.PrintMore
attribute [local go_sem] max2_int min2_int max_two min_two max_three min_three max_four min_four   -- for this text's walks alone
attribute [local go_sem] cell_after
set_option linter.unusedVariables false
set_option linter.unusedSimpArgs false

/-! ### tabardlaw7_dec: function 13 -/
def tabardlaw7_dec.f (a0 : Bool) (a1 : ByteArray) (a2 : Int) : Option (Bool × ByteArray × Int) := some (a0,a1,a2)
set_option maxHeartbeats 8000000 in
set_option maxRecDepth 100000 in
theorem tabardlaw7_dec.calls (a0 : Bool) (a1 : ByteArray) (a2 : Int) (r1 : Bool) (r2 : ByteArray) (r3 : Int) (w : World) (h : tabardlaw7_dec.f a0 a1 a2 = some (r1,r2,r3)) :
  Calls Tryz.prog 13 #[.bool a0,.string a1,.int .i64 a2] w fun e w' => e = .returned (.agg #[.bool r1,.string r2,.int .i64 r3]) ∧ Below w.heap.size w w' := by
 have hu23 := Tryz.underlying23
 have HB := Aside0.mk (Below.refl w.heap.size w)
 have H : (some (a0,a1,a2)) = some (r1,r2,r3) := h
 clear h
 simp only [Option.some.injEq,Prod.mk.injEq] at H
 obtain ⟨rfl,rfl,rfl⟩ := H
 go_enter Tryz.func13,Tryz.ntmps13
 go_wp2_with (first | ((with_reducible refine gate_dst (N := 6) rfl ?_);refine box_event ?hg (N := 6) ?hd (cs := #[.bool false,.string (⟨#[]⟩ : ByteArray),.int .i64 0]) (t := 23) ?hr ?_;(case hd => rfl);(case hg => rfl);(case hr => first | (go_simp;done) | (go_simp;rfl));intro gb199 hg w4 hbox hb;have n0_ := Aside0.mk (below_step (by repeat (first | (with_reducible first | exact HB.out | apply below_alloc | apply pw_below_drewN | apply below_drew1) | exact HB.out)) hb);have n1_ := Aside0.mk (hbox);have n2_ := Aside0.mk ((by rw [hg];exact (below_size (by repeat (first | (with_reducible first | exact HB.out | apply below_alloc | apply pw_below_drewN | apply below_drew1) | exact HB.out))) : w.heap.size ≤ gb199));have n3_ := Aside0.mk ((by rw [hg];exact (below_size (by repeat (first | (with_reducible first | exact HB.out | apply below_alloc | apply pw_below_drewN | apply below_drew1) | exact HB.out))) : w.heap.size ≤ gb199));clear HB;have HB := n0_;have BK199 := n1_;have GW199 := n2_;have GE199 := n3_;clear n0_ n1_ n2_ n3_;clear hb hbox hg;have hcz5_0 : w4.cell? ⟨gb199,0,none⟩ = some (.bool false) := (blk_cell BK199.out 0).trans rfl;have hcz5_1 : w4.cell? ⟨gb199,1,none⟩ = some (.string (⟨#[]⟩ : ByteArray)) := (blk_cell BK199.out 1).trans rfl;have hcz5_2 : w4.cell? ⟨gb199,2,none⟩ = some (.int .i64 0) := (blk_cell BK199.out 2).trans rfl;have hfz5_0 := blk_frozen BK199.out 0;have hfz5_1 := blk_frozen BK199.out 1;have hfz5_2 := blk_frozen BK199.out 2))
 refine bodyPost_ret (results_cell_row rfl _ _ gb199 23 #[.bool a0,.string a1,.int .i64 a2] (0,0) _ rfl (by (with_reducible repeat (first | refine blk_drewN ?_ _ | refine blk_drew ?_ | refine blk_alloc ?_ _));refine blk_put (cs := #[.bool a0,.string a1,.int .i64 0]) ?_ 2 _ rfl;(with_reducible repeat (first | refine blk_drewN ?_ _ | refine blk_drew ?_ | refine blk_alloc ?_ _));refine blk_put (cs := #[.bool a0,.string (⟨#[]⟩ : ByteArray),.int .i64 0]) ?_ 1 _ rfl;(with_reducible repeat (first | refine blk_drewN ?_ _ | refine blk_drew ?_ | refine blk_alloc ?_ _));refine blk_put (cs := #[.bool false,.string (⟨#[]⟩ : ByteArray),.int .i64 0]) ?_ 0 _ rfl;(with_reducible repeat (first | refine blk_drewN ?_ _ | refine blk_drew ?_ | refine blk_alloc ?_ _));exact BK199.out) Tryz.underlying23 rfl (by kernel_rfl)) rfl ?_
 exact ⟨by first | rfl | (simp [errW_none,errW_some] <;> rfl) | (simp [*,errW_none,errW_some] <;> rfl),by repeat (first | (with_reducible first | exact HB.out | apply below_alloc | apply pw_below_drewN | apply below_drew1 | refine below_set ?_ GE199.out) | exact HB.out)⟩

/-! ### tabardref7_digit: function 21 -/
def tabardref7_digit.f (a0 : Int) : Option (Bool) := if a0 ≥ 48 then (some (decide (a0 ≤ 57))) else (some false)
set_option maxHeartbeats 8000000 in
set_option maxRecDepth 100000 in
theorem tabardref7_digit.calls (a0 : Int) (r : Bool) (w : World) (h : tabardref7_digit.f a0 = some r) :
  Calls Tryz.prog 21 #[.int .u8 a0] w fun e w' => e = .returned (.bool r) ∧ Drawn0 w w' := by
 have H : (if a0 ≥ 48 then (some (decide (a0 ≤ 57))) else (some false)) = some r := h
 clear h
 by_cases c2 : a0 ≥ 48
 ·rw [if_pos c2] at H
  have c2b0 : decide (48 ≤ a0) = true := decide_eq_true c2
  clear c2
  obtain rfl := Option.some.inj H
  go_enter Tryz.func21,Tryz.ntmps21
  go_wp2
  go_ret
  exact ⟨by first | rfl | (simp;done) | (simp [*];done),by repeat (first | exact Drawn0.refl _ | apply Drawn0.step)⟩
 ·rw [if_neg c2] at H
  have c2b0 : decide (48 ≤ a0) = false := decide_eq_false c2
  clear c2
  obtain rfl := Option.some.inj H
  go_enter Tryz.func21,Tryz.ntmps21
  go_wp2
  go_ret
  exact ⟨by first | rfl | (simp;done) | (simp [*];done),by repeat (first | exact Drawn0.refl _ | apply Drawn0.step)⟩

/-! ### tabardref7_Right: function 8 -/
mutual
def tabardref7_Right.j0 : Nat → Int → Bool → Bool → ByteArray → Int → Option (Bool)
 | 0,_,_,_,_,_ => none
 | k + 1,x3,x39,x201000,x201001,x201002 => if x39 = true then (some false) else (tabardref7_Right.l0 k x3 0 x201000 x201001 x201002)
def tabardref7_Right.l0 : Nat → Int → Int → Bool → ByteArray → Int → Option (Bool)
 | 0,_,_,_,_,_ => none
 | k + 1,x3,x4,x201000,x201001,x201002 => if x4 < x3 then (if 0 ≤ x4 then (if x4 < (x201001.size : Int) then ((tabardref7_digit.f (bt x201001 x4)).bind fun t201 => (if t201 = true then (tabardref7_Right.l0 k x3 (wrap64 (x4 + 1)) x201000 x201001 x201002) else (some false))) else (none)) else (none)) else (some true)
end
def tabardref7_Right.f (k : Nat) (a0_0 : Bool) (a0_1 : ByteArray) (a0_2 : Int) : Option (Bool) := if (a0_1.size : Int) = 0 then (some (a0_2 == 0)) else (if (a0_1.size : Int) > 1100 then (tabardref7_Right.j0 k (a0_1.size : Int) true a0_0 a0_1 a0_2) else (if a0_2 < (-100000) then (tabardref7_Right.j0 k (a0_1.size : Int) true a0_0 a0_1 a0_2) else (if a0_2 > 100000 then (tabardref7_Right.j0 k (a0_1.size : Int) true a0_0 a0_1 a0_2) else (if 0 < (a0_1.size : Int) then (if (bt a0_1 0) = 48 then (tabardref7_Right.j0 k (a0_1.size : Int) true a0_0 a0_1 a0_2) else (if 0 ≤ (wrap64 ((a0_1.size : Int) - 1)) then (if (wrap64 ((a0_1.size : Int) - 1)) < (a0_1.size : Int) then (tabardref7_Right.j0 k (a0_1.size : Int) ((bt a0_1 (wrap64 ((a0_1.size : Int) - 1))) == 48) a0_0 a0_1 a0_2) else (none)) else (none))) else (none)))))
set_option maxHeartbeats 8000000 in
set_option maxRecDepth 100000 in
theorem tabardref7_Right.calls (k : Nat) (a0_0 : Bool) (a0_1 : ByteArray) (a0_2 : Int) (r : Bool) (w : World) (h : tabardref7_Right.f k a0_0 a0_1 a0_2 = some r) :
  Calls Tryz.prog 8 #[.agg #[.bool a0_0,.string a0_1,.int .i64 a0_2]] w fun e w' => e = .returned (.bool r) ∧ Below w.heap.size w w' := by
 have hu23 := Tryz.underlying23
 have HB := Aside0.mk (Below.refl w.heap.size w)
 have H : (if (a0_1.size : Int) = 0 then (some (a0_2 == 0)) else (if (a0_1.size : Int) > 1100 then (tabardref7_Right.j0 k (a0_1.size : Int) true a0_0 a0_1 a0_2) else (if a0_2 < (-100000) then (tabardref7_Right.j0 k (a0_1.size : Int) true a0_0 a0_1 a0_2) else (if a0_2 > 100000 then (tabardref7_Right.j0 k (a0_1.size : Int) true a0_0 a0_1 a0_2) else (if 0 < (a0_1.size : Int) then (if (bt a0_1 0) = 48 then (tabardref7_Right.j0 k (a0_1.size : Int) true a0_0 a0_1 a0_2) else (if 0 ≤ (wrap64 ((a0_1.size : Int) - 1)) then (if (wrap64 ((a0_1.size : Int) - 1)) < (a0_1.size : Int) then (tabardref7_Right.j0 k (a0_1.size : Int) ((bt a0_1 (wrap64 ((a0_1.size : Int) - 1))) == 48) a0_0 a0_1 a0_2) else (none)) else (none))) else (none)))))) = some r := h
 clear h
 by_cases c2 : (a0_1.size : Int) = 0
 ·rw [if_pos c2] at H
  have c2b0 : ((a0_1.size : Int) == 0) = true := beq_iff_eq.mpr c2
  have c2b1 : ((a0_1.size : Int) != 0) = false := bne_eq_false_iff_eq.mpr c2
  clear c2
  obtain rfl := Option.some.inj H
  go_enter Tryz.func8,Tryz.ntmps8
  go_wp2_with (first | ((with_reducible refine gate_dst (N := 1) rfl ?_);refine box_event ?hg (N := 1) ?hd (cs := #[.bool a0_0,.string a0_1,.int .i64 a0_2]) (t := 23) ?hr ?_;(case hd => rfl);(case hg => rfl);(case hr => first | (go_simp;done) | (go_simp;rfl));intro gb200 hg w3 hbox hb;have n0_ := Aside0.mk (below_step (by repeat (first | (with_reducible first | exact HB.out | apply below_alloc | apply pw_below_drewN | apply below_drew1) | exact HB.out)) hb);have n1_ := Aside0.mk (hbox);have n2_ := Aside0.mk ((by rw [hg];exact (below_size (by repeat (first | (with_reducible first | exact HB.out | apply below_alloc | apply pw_below_drewN | apply below_drew1) | exact HB.out))) : w.heap.size ≤ gb200));have n3_ := Aside0.mk ((by rw [hg];exact (below_size (by repeat (first | (with_reducible first | exact HB.out | apply below_alloc | apply pw_below_drewN | apply below_drew1) | exact HB.out))) : w.heap.size ≤ gb200));clear HB;have HB := n0_;have BK200 := n1_;have GW200 := n2_;have GE200 := n3_;clear n0_ n1_ n2_ n3_;clear hb hbox hg;have hcz4_0 : w3.cell? ⟨gb200,0,none⟩ = some (.bool a0_0) := (blk_cell BK200.out 0).trans rfl;have hcz4_1 : w3.cell? ⟨gb200,1,none⟩ = some (.string a0_1) := (blk_cell BK200.out 1).trans rfl;have hcz4_2 : w3.cell? ⟨gb200,2,none⟩ = some (.int .i64 a0_2) := (blk_cell BK200.out 2).trans rfl;have hfz4_0 := blk_frozen BK200.out 0;have hfz4_1 := blk_frozen BK200.out 1;have hfz4_2 := blk_frozen BK200.out 2))
  go_ret
  exact ⟨by first | rfl | (simp [errW_none,errW_some] <;> rfl) | (simp [*,errW_none,errW_some] <;> rfl),by repeat (first | (with_reducible first | exact HB.out | apply below_alloc | apply pw_below_drewN | apply below_drew1 | refine below_set ?_ GE200.out) | exact HB.out)⟩
 ·rw [if_neg c2] at H
  have c2b0 : ((a0_1.size : Int) == 0) = false := beq_eq_false_iff_ne.mpr c2
  have c2b1 : ((a0_1.size : Int) != 0) = true := bne_iff_ne.mpr c2
  have HC5 := Aside0.mk H
  clear H
  go_enter Tryz.func8,Tryz.ntmps8
  go_upto_region 4 with (first | ((with_reducible refine gate_dst (N := 1) rfl ?_);refine box_event ?hg (N := 1) ?hd (cs := #[.bool a0_0,.string a0_1,.int .i64 a0_2]) (t := 23) ?hr ?_;(case hd => rfl);(case hg => rfl);(case hr => first | (go_simp;done) | (go_simp;rfl));intro gb200 hg w6 hbox hb;have n0_ := Aside0.mk (below_step (by repeat (first | (with_reducible first | exact HB.out | apply below_alloc | apply pw_below_drewN | apply below_drew1) | exact HB.out)) hb);have n1_ := Aside0.mk (hbox);have n2_ := Aside0.mk ((by rw [hg];exact (below_size (by repeat (first | (with_reducible first | exact HB.out | apply below_alloc | apply pw_below_drewN | apply below_drew1) | exact HB.out))) : w.heap.size ≤ gb200));have n3_ := Aside0.mk ((by rw [hg];exact (below_size (by repeat (first | (with_reducible first | exact HB.out | apply below_alloc | apply pw_below_drewN | apply below_drew1) | exact HB.out))) : w.heap.size ≤ gb200));clear HB;have HB := n0_;have BK200 := n1_;have GW200 := n2_;have GE200 := n3_;clear n0_ n1_ n2_ n3_;clear hb hbox hg;have hcz7_0 : w6.cell? ⟨gb200,0,none⟩ = some (.bool a0_0) := (blk_cell BK200.out 0).trans rfl;have hcz7_1 : w6.cell? ⟨gb200,1,none⟩ = some (.string a0_1) := (blk_cell BK200.out 1).trans rfl;have hcz7_2 : w6.cell? ⟨gb200,2,none⟩ = some (.int .i64 a0_2) := (blk_cell BK200.out 2).trans rfl;have hfz7_0 := blk_frozen BK200.out 0;have hfz7_1 := blk_frozen BK200.out 1;have hfz7_2 := blk_frozen BK200.out 2))
  (try simp only [Act.put,List.setIfInBounds_toArray,List.set_cons_zero,List.set_cons_succ])
  go_cut [39] (fun v39 wc => ∃ (kq : Nat) (x39_4 : Bool),v39 = .bool x39_4 ∧ Aside0 (tabardref7_Right.j0 kq (a0_1.size : Int) x39_4 a0_0 a0_1 a0_2 = some r) ∧ Aside0 (kq ≤ k) ∧ Aside0 (wc.heap[gb200]? = some (.cells #[.bool a0_0,.string a0_1,.int .i64 a0_2] 23 (0,0))) ∧ Aside0 (Below w.heap.size w wc))
  case first =>
   have H := HC5.out
   clear HC5
   by_cases c8 : (a0_1.size : Int) > 1100
   ·rw [if_pos c8] at H
    have c8b0 : decide (1100 < (a0_1.size : Int)) = true := decide_eq_true c8
    have c8b1 : decide (1100 < a0_1.size) = true := decide_eq_true (by omega)
    clear c8
    (first | rw [c8b0] | (simp only [i64_w,i32_w];rw [c8b0]) | skip)
    have H' := Aside0.mk H
    clear H
    go_wp2
    go_meet
    case rel => exact ⟨_,(true),(by first | rfl | (simp;done) | (simp [*];done)),H',⟨by first | omega | exact Nat.le_refl _⟩,⟨by (with_reducible repeat (first | refine blk_drewN ?_ _ | refine blk_drew ?_ | refine blk_alloc ?_ _));exact BK200.out⟩,⟨by repeat (first | (with_reducible first | exact HB.out | apply below_alloc | apply pw_below_drewN | apply below_drew1 | refine below_set ?_ GE200.out) | exact HB.out)⟩⟩
   ·rw [if_neg c8] at H
    have c8b0 : decide (1100 < (a0_1.size : Int)) = false := decide_eq_false c8
    have c8b1 : decide (1100 < a0_1.size) = false := decide_eq_false (by omega)
    clear c8
    (first | rw [c8b0] | (simp only [i64_w,i32_w];rw [c8b0]) | skip)
    by_cases c9 : a0_2 < (-100000)
    ·rw [if_pos c9] at H
     have c9b0 : decide (a0_2 < (-100000)) = true := decide_eq_true c9
     clear c9
     have H' := Aside0.mk H
     clear H
     have hcz10_0 : w6.cell? ⟨gb200,0,none⟩ = some (.bool a0_0) := (blk_cell BK200.out 0).trans rfl
     have hcz10_1 : w6.cell? ⟨gb200,1,none⟩ = some (.string a0_1) := (blk_cell BK200.out 1).trans rfl
     have hcz10_2 : w6.cell? ⟨gb200,2,none⟩ = some (.int .i64 a0_2) := (blk_cell BK200.out 2).trans rfl
     have hfz10_0 := blk_frozen BK200.out 0
     have hfz10_1 := blk_frozen BK200.out 1
     have hfz10_2 := blk_frozen BK200.out 2
     go_wp2
     go_meet
     case rel => exact ⟨_,(true),(by first | rfl | (simp;done) | (simp [*];done)),H',⟨by first | omega | exact Nat.le_refl _⟩,⟨by (with_reducible repeat (first | refine blk_drewN ?_ _ | refine blk_drew ?_ | refine blk_alloc ?_ _));exact BK200.out⟩,⟨by repeat (first | (with_reducible first | exact HB.out | apply below_alloc | apply pw_below_drewN | apply below_drew1 | refine below_set ?_ GE200.out) | exact HB.out)⟩⟩
    ·rw [if_neg c9] at H
     have c9b0 : decide (a0_2 < (-100000)) = false := decide_eq_false c9
     clear c9
     by_cases c11 : a0_2 > 100000
     ·rw [if_pos c11] at H
      have c11b0 : decide (100000 < a0_2) = true := decide_eq_true c11
      clear c11
      have H' := Aside0.mk H
      clear H
      have hcz12_0 : w6.cell? ⟨gb200,0,none⟩ = some (.bool a0_0) := (blk_cell BK200.out 0).trans rfl
      have hcz12_1 : w6.cell? ⟨gb200,1,none⟩ = some (.string a0_1) := (blk_cell BK200.out 1).trans rfl
      have hcz12_2 : w6.cell? ⟨gb200,2,none⟩ = some (.int .i64 a0_2) := (blk_cell BK200.out 2).trans rfl
      have hfz12_0 := blk_frozen BK200.out 0
      have hfz12_1 := blk_frozen BK200.out 1
      have hfz12_2 := blk_frozen BK200.out 2
      go_wp2
      go_meet
      case rel => exact ⟨_,(true),(by first | rfl | (simp;done) | (simp [*];done)),H',⟨by first | omega | exact Nat.le_refl _⟩,⟨by (with_reducible repeat (first | refine blk_drewN ?_ _ | refine blk_drew ?_ | refine blk_alloc ?_ _));exact BK200.out⟩,⟨by repeat (first | (with_reducible first | exact HB.out | apply below_alloc | apply pw_below_drewN | apply below_drew1 | refine below_set ?_ GE200.out) | exact HB.out)⟩⟩
     ·rw [if_neg c11] at H
      have c11b0 : decide (100000 < a0_2) = false := decide_eq_false c11
      clear c11
      by_cases c13 : 0 < (a0_1.size : Int)
      ·rw [if_pos c13] at H
       have c13b0 : decide (0 < (a0_1.size : Int)) = true := decide_eq_true c13
       have c13b1 : decide (0 < a0_1.size) = true := decide_eq_true (by omega)
       clear c13
       by_cases c15 : (bt a0_1 0) = 48
       ·rw [if_pos c15] at H
        have c15b0 : ((bt a0_1 0) == 48) = true := beq_iff_eq.mpr c15
        have c15b1 : ((bt a0_1 0) != 48) = false := bne_eq_false_iff_eq.mpr c15
        clear c15
        have H' := Aside0.mk H
        clear H
        have hcz16_0 : w6.cell? ⟨gb200,0,none⟩ = some (.bool a0_0) := (blk_cell BK200.out 0).trans rfl
        have hcz16_1 : w6.cell? ⟨gb200,1,none⟩ = some (.string a0_1) := (blk_cell BK200.out 1).trans rfl
        have hcz16_2 : w6.cell? ⟨gb200,2,none⟩ = some (.int .i64 a0_2) := (blk_cell BK200.out 2).trans rfl
        have hfz16_0 := blk_frozen BK200.out 0
        have hfz16_1 := blk_frozen BK200.out 1
        have hfz16_2 := blk_frozen BK200.out 2
        have p14 : 0 ≤ (0 : Int) := (by omega)
        have q14 : 0 < a0_1.size := (by have : (0 : Int) < (a0_1.size : Int) := of_decide_eq_true (by first | (with_reducible assumption) | assumption);omega)
        have hx14 : ∀ h : 0 < a0_1.size,((a0_1[0]'h).toNat : Int) = bt a0_1 0 := bt_at a0_1 0
        clear p14
        have qi14 : (0 < (a0_1.size : Int)) = True := eq_true (of_decide_eq_true (by first | (with_reducible assumption) | assumption))
        replace q14 := eq_true q14
        go_wp2
        go_meet
        case rel => exact ⟨_,(true),(by first | rfl | (simp;done) | (simp [*];done)),H',⟨by first | omega | exact Nat.le_refl _⟩,⟨by (with_reducible repeat (first | refine blk_drewN ?_ _ | refine blk_drew ?_ | refine blk_alloc ?_ _));exact BK200.out⟩,⟨by repeat (first | (with_reducible first | exact HB.out | apply below_alloc | apply pw_below_drewN | apply below_drew1 | refine below_set ?_ GE200.out) | exact HB.out)⟩⟩
       ·rw [if_neg c15] at H
        have c15b0 : ((bt a0_1 0) == 48) = false := beq_eq_false_iff_ne.mpr c15
        have c15b1 : ((bt a0_1 0) != 48) = true := bne_iff_ne.mpr c15
        obtain ⟨ji17,hji17⟩ : ∃ j_ : Int,(wrap64 ((a0_1.size : Int) - 1)) = j_ := ⟨_,rfl⟩
        replace H : (if 0 ≤ (ji17) then (if (ji17) < (a0_1.size : Int) then (tabardref7_Right.j0 k (a0_1.size : Int) ((bt a0_1 (ji17)) == 48) a0_0 a0_1 a0_2) else (none)) else (none)) = some r := by first | (rw [hji17] at H;exact H) | (simp only [hji17] at H ⊢;exact H)
        have hji17w : (IntKind.i64.wrap ((a0_1.size : Int) - 1)) = ji17 := (i64_w _).trans hji17
        by_cases c18 : 0 ≤ (ji17)
        ·rw [if_pos c18] at H
         have c18b0 : decide (0 ≤ (ji17)) = true := decide_eq_true c18
         clear c18
         by_cases c19 : (ji17) < (a0_1.size : Int)
         ·rw [if_pos c19] at H
          have c19b0 : decide ((ji17) < (a0_1.size : Int)) = true := decide_eq_true c19
          clear c19
          have H' := Aside0.mk H
          clear H
          have hcz21_0 : w6.cell? ⟨gb200,0,none⟩ = some (.bool a0_0) := (blk_cell BK200.out 0).trans rfl
          have hcz21_1 : w6.cell? ⟨gb200,1,none⟩ = some (.string a0_1) := (blk_cell BK200.out 1).trans rfl
          have hcz21_2 : w6.cell? ⟨gb200,2,none⟩ = some (.int .i64 a0_2) := (blk_cell BK200.out 2).trans rfl
          have hfz21_0 := blk_frozen BK200.out 0
          have hfz21_1 := blk_frozen BK200.out 1
          have hfz21_2 := blk_frozen BK200.out 2
          have p14 : 0 ≤ (0 : Int) := (by omega)
          have q14 : 0 < a0_1.size := (by have : (0 : Int) < (a0_1.size : Int) := of_decide_eq_true (by first | (with_reducible assumption) | assumption);omega)
          have hx14 : ∀ h : 0 < a0_1.size,((a0_1[0]'h).toNat : Int) = bt a0_1 0 := bt_at a0_1 0
          clear p14
          have qi14 : (0 < (a0_1.size : Int)) = True := eq_true (of_decide_eq_true (by first | (with_reducible assumption) | assumption))
          replace q14 := eq_true q14
          have p20 : 0 ≤ ((ji17) : Int) := of_decide_eq_true (by first | (with_reducible assumption) | assumption)
          have q20 : (ji17) < (a0_1.size : Int) := of_decide_eq_true (by first | (with_reducible assumption) | assumption)
          have hx20 := bt_at a0_1 (ji17)
          replace p20 := eq_true p20
          replace q20 := eq_true q20
          go_wp2
          go_meet
          case rel => exact ⟨_,(((bt a0_1 (ji17)) == 48)),(by first | rfl | (simp;done) | (simp only [← hji17] <;> (first | rfl | simp)) | (simp [*];done)),H',⟨by first | omega | exact Nat.le_refl _⟩,⟨by (with_reducible repeat (first | refine blk_drewN ?_ _ | refine blk_drew ?_ | refine blk_alloc ?_ _));exact BK200.out⟩,⟨by repeat (first | (with_reducible first | exact HB.out | apply below_alloc | apply pw_below_drewN | apply below_drew1 | refine below_set ?_ GE200.out) | exact HB.out)⟩⟩
         ·rw [if_neg c19] at H
          exact absurd H (by simp)
        ·rw [if_neg c18] at H
         exact absurd H (by simp)
      ·rw [if_neg c13] at H
       exact absurd H (by simp)
  case rest =>
   clear HC5
   try clear c1
   try clear p1
   try clear q1
   try clear hx1
   try clear qi1
   try clear c2
   try clear c2b0
   try clear c2b1
   try clear p2
   try clear q2
   try clear hx2
   try clear p6
   try clear c8
   try clear c8b0
   try clear c8b1
   try clear c9
   try clear c9b0
   try clear c11
   try clear c11b0
   try clear c13
   try clear c13b0
   try clear c13b1
   try clear p14
   try clear q14
   try clear hx14
   try clear qi14
   try clear c15
   try clear c15b0
   try clear c15b1
   try clear c18
   try clear c18b0
   try clear c19
   try clear c19b0
   try clear p20
   try clear q20
   try clear hx20
   try clear hcz10_0
   try clear hcz10_1
   try clear hcz10_2
   try clear hcz12_0
   try clear hcz12_1
   try clear hcz12_2
   try clear hcz16_0
   try clear hcz16_1
   try clear hcz16_2
   try clear hcz21_0
   try clear hcz21_1
   try clear hcz21_2
   try clear hcz4_0
   try clear hcz4_1
   try clear hcz4_2
   try clear hcz7_0
   try clear hcz7_1
   try clear hcz7_2
   try clear hfz10_0
   try clear hfz10_1
   try clear hfz10_2
   try clear hfz12_0
   try clear hfz12_1
   try clear hfz12_2
   try clear hfz16_0
   try clear hfz16_1
   try clear hfz16_2
   try clear hfz21_0
   try clear hfz21_1
   try clear hfz21_2
   try clear hfz4_0
   try clear hfz4_1
   try clear hfz4_2
   try clear hfz7_0
   try clear hfz7_1
   try clear hfz7_2
   try clear p14
   try clear p20
   try clear q14
   try clear q20
   obtain ⟨kq,x39_4,rfl,HA,HJ4,BK200,HB⟩ := hcut
   cases kq with
   | zero => exact absurd HA.out (by simp [tabardref7_Right.j0])
   | succ kj4 =>
    have H := HA.out
    clear HA
    simp only [tabardref7_Right.j0] at H
    by_cases c22 : x39_4 = true
    ·subst c22
     have H1 : (some false) = some r := by rw [if_pos rfl] at H;exact H
     clear H
     have H := H1
     clear H1
     obtain rfl := Option.some.inj H
     go_wp2
     go_ret
     exact ⟨by first | rfl | (simp [errW_none,errW_some] <;> rfl) | (simp [*,errW_none,errW_some] <;> rfl),by repeat (first | (with_reducible first | exact HB.out | apply below_alloc | apply pw_below_drewN | apply below_drew1 | refine below_set ?_ GE200.out) | exact HB.out)⟩
    ·replace c22 := Bool.eq_false_iff.mpr c22
     subst c22
     have H1 : (tabardref7_Right.l0 kj4 (a0_1.size : Int) 0 a0_0 a0_1 a0_2) = some r := by rw [if_neg (show ¬ (false = true) by decide)] at H;exact H
     clear H
     have H := H1
     clear H1
     have H' := Aside0.mk H
     clear H
     go_wp2
     go_loopg [4] kj4 (fun kq v4 w' => ∃ (x4_2 : Int),v4 = .int .i64 x4_2 ∧ Aside0 (tabardref7_Right.l0 kq (a0_1.size : Int) x4_2 a0_0 a0_1 a0_2 = some r) ∧ Aside0 (kq ≤ kj4) ∧ Aside0 (w'.heap[gb200]? = some (.cells #[.bool a0_0,.string a0_1,.int .i64 a0_2] 23 (0,0))) ∧ Aside0 (Below w.heap.size w w'))
     case atStart => exact ⟨(0),(by first | rfl | (simp;done) | (simp [*];done)),H',⟨Nat.le_refl _⟩,⟨by (with_reducible repeat (first | refine blk_drewN ?_ _ | refine blk_drew ?_ | refine blk_alloc ?_ _));exact BK200.out⟩,⟨by repeat (first | (with_reducible first | exact HB.out | apply below_alloc | apply pw_below_drewN | apply below_drew1 | refine below_set ?_ GE200.out) | exact HB.out)⟩⟩
     case round =>
      clear H'
      try clear c1
      try clear p1
      try clear q1
      try clear hx1
      try clear qi1
      try clear c2
      try clear c2b0
      try clear c2b1
      try clear p2
      try clear q2
      try clear hx2
      try clear p6
      try clear c8
      try clear c8b0
      try clear c8b1
      try clear c9
      try clear c9b0
      try clear c11
      try clear c11b0
      try clear c13
      try clear c13b0
      try clear c13b1
      try clear p14
      try clear q14
      try clear hx14
      try clear qi14
      try clear c15
      try clear c15b0
      try clear c15b1
      try clear c18
      try clear c18b0
      try clear c19
      try clear c19b0
      try clear p20
      try clear q20
      try clear hx20
      try clear c22
      try clear hcz10_0
      try clear hcz10_1
      try clear hcz10_2
      try clear hcz12_0
      try clear hcz12_1
      try clear hcz12_2
      try clear hcz16_0
      try clear hcz16_1
      try clear hcz16_2
      try clear hcz21_0
      try clear hcz21_1
      try clear hcz21_2
      try clear hcz4_0
      try clear hcz4_1
      try clear hcz4_2
      try clear hcz7_0
      try clear hcz7_1
      try clear hcz7_2
      try clear hfz10_0
      try clear hfz10_1
      try clear hfz10_2
      try clear hfz12_0
      try clear hfz12_1
      try clear hfz12_2
      try clear hfz16_0
      try clear hfz16_1
      try clear hfz16_2
      try clear hfz21_0
      try clear hfz21_1
      try clear hfz21_2
      try clear hfz4_0
      try clear hfz4_1
      try clear hfz4_2
      try clear hfz7_0
      try clear hfz7_1
      try clear hfz7_2
      try clear p1
      try clear p14
      try clear p2
      try clear p20
      try clear p6
      try clear q1
      try clear q14
      try clear q2
      try clear q20
      obtain ⟨x4_2,rfl,HA,HK2,BK200,HB⟩ := hrel
      cases gk with
      | zero => exact absurd HA.out (by simp [tabardref7_Right.l0])
      | succ k2 =>
       have H := HA.out
       clear HA
       simp only [tabardref7_Right.l0] at H
       by_cases c23 : x4_2 < (a0_1.size : Int)
       ·rw [if_pos c23] at H
        have c23b0 : decide (x4_2 < (a0_1.size : Int)) = true := decide_eq_true c23
        clear c23
        by_cases c24 : 0 ≤ x4_2
        ·rw [if_pos c24] at H
         have c24b0 : decide (0 ≤ x4_2) = true := decide_eq_true c24
         clear c24
         by_cases c25 : x4_2 < (a0_1.size : Int)
         ·rw [if_pos c25] at H
          have c25b0 : decide (x4_2 < (a0_1.size : Int)) = true := decide_eq_true c25
          clear c25
          replace H := Option.bind_eq_some_iff.mp H
          obtain ⟨t201,A270,H⟩ := H
          replace H : (if t201 = true then (tabardref7_Right.l0 k2 (a0_1.size : Int) (wrap64 (x4_2 + 1)) a0_0 a0_1 a0_2) else (some false)) = some r := H
          have A27 := Aside0.mk A270
          clear A270
          by_cases c28 : t201 = true
          ·subst c28
           have H1 : (tabardref7_Right.l0 k2 (a0_1.size : Int) (wrap64 (x4_2 + 1)) a0_0 a0_1 a0_2) = some r := by rw [if_pos rfl] at H;exact H
           clear H
           have H := H1
           clear H1
           have H' := Aside0.mk H
           clear H
           have hcz29_0 : wr.cell? ⟨gb200,0,none⟩ = some (.bool a0_0) := (blk_cell BK200.out 0).trans rfl
           have hcz29_1 : wr.cell? ⟨gb200,1,none⟩ = some (.string a0_1) := (blk_cell BK200.out 1).trans rfl
           have hcz29_2 : wr.cell? ⟨gb200,2,none⟩ = some (.int .i64 a0_2) := (blk_cell BK200.out 2).trans rfl
           have hfz29_0 := blk_frozen BK200.out 0
           have hfz29_1 := blk_frozen BK200.out 1
           have hfz29_2 := blk_frozen BK200.out 2
           have p26 : 0 ≤ (x4_2 : Int) := of_decide_eq_true (by first | (with_reducible assumption) | assumption)
           have q26 : x4_2 < (a0_1.size : Int) := of_decide_eq_true (by first | (with_reducible assumption) | assumption)
           have hx26 := bt_at a0_1 x4_2
           replace p26 := eq_true p26
           replace q26 := eq_true q26
           go_wp2_with (first | ((with_reducible refine gate_callee (f := 21) rfl ?_);refine goesL_ (some 49) rfl rfl Tryz.func21 (by kernel_rfl) rfl #[.int .u8 (bt a0_1 x4_2)] rfl (by (try simp only [List.map_toArray,List.map_cons,List.map_nil]);first | done | rfl | (simp only [List.length_drop,List.length_take];rfl)) ?_;(with_reducible refine (tabardref7_digit.calls (bt a0_1 x4_2) true _ A27.out).mono ?_);rintro e w' ⟨rfl,⟨nd,rfl⟩⟩;refine ⟨_,rfl,?_⟩))
           go_roundg k2
           case measure => have := HJ4.out;have := HK2.out;omega
           case rel => exact ⟨(wrap64 (x4_2 + 1)),(by first | rfl | (simp;done) | (simp [*];done)),(by first | exact H' | (rw [hji17];exact H')),⟨by have := HJ4.out;have := HK2.out;omega⟩,⟨by (with_reducible repeat (first | refine blk_drewN ?_ _ | refine blk_drew ?_ | refine blk_alloc ?_ _));exact BK200.out⟩,⟨by repeat (first | (with_reducible first | exact HB.out | apply below_alloc | apply pw_below_drewN | apply below_drew1 | refine below_set ?_ GE200.out) | exact HB.out)⟩⟩
          ·replace c28 := Bool.eq_false_iff.mpr c28
           subst c28
           have H1 : (some false) = some r := by rw [if_neg (show ¬ (false = true) by decide)] at H;exact H
           clear H
           have H := H1
           clear H1
           obtain rfl := Option.some.inj H
           have hcz30_0 : wr.cell? ⟨gb200,0,none⟩ = some (.bool a0_0) := (blk_cell BK200.out 0).trans rfl
           have hcz30_1 : wr.cell? ⟨gb200,1,none⟩ = some (.string a0_1) := (blk_cell BK200.out 1).trans rfl
           have hcz30_2 : wr.cell? ⟨gb200,2,none⟩ = some (.int .i64 a0_2) := (blk_cell BK200.out 2).trans rfl
           have hfz30_0 := blk_frozen BK200.out 0
           have hfz30_1 := blk_frozen BK200.out 1
           have hfz30_2 := blk_frozen BK200.out 2
           have p26 : 0 ≤ (x4_2 : Int) := of_decide_eq_true (by first | (with_reducible assumption) | assumption)
           have q26 : x4_2 < (a0_1.size : Int) := of_decide_eq_true (by first | (with_reducible assumption) | assumption)
           have hx26 := bt_at a0_1 x4_2
           replace p26 := eq_true p26
           replace q26 := eq_true q26
           go_wp2_with (first | ((with_reducible refine gate_callee (f := 21) rfl ?_);refine goesL_ (some 49) rfl rfl Tryz.func21 (by kernel_rfl) rfl #[.int .u8 (bt a0_1 x4_2)] rfl (by (try simp only [List.map_toArray,List.map_cons,List.map_nil]);first | done | rfl | (simp only [List.length_drop,List.length_take];rfl)) ?_;(with_reducible refine (tabardref7_digit.calls (bt a0_1 x4_2) false _ A27.out).mono ?_);rintro e w' ⟨rfl,⟨nd,rfl⟩⟩;refine ⟨_,rfl,?_⟩))
           go_ret
           exact ⟨by first | rfl | (simp [errW_none,errW_some] <;> rfl) | (simp [*,errW_none,errW_some] <;> rfl),by repeat (first | (with_reducible first | exact HB.out | apply below_alloc | apply pw_below_drewN | apply below_drew1 | refine below_set ?_ GE200.out) | exact HB.out)⟩
         ·rw [if_neg c25] at H
          exact absurd H (by simp)
        ·rw [if_neg c24] at H
         exact absurd H (by simp)
       ·rw [if_neg c23] at H
        have c23b0 : decide (x4_2 < (a0_1.size : Int)) = false := decide_eq_false c23
        clear c23
        obtain rfl := Option.some.inj H
        go_wp2
        go_ret
        exact ⟨by first | rfl | (simp [errW_none,errW_some] <;> rfl) | (simp [*,errW_none,errW_some] <;> rfl),by repeat (first | (with_reducible first | exact HB.out | apply below_alloc | apply pw_below_drewN | apply below_drew1 | refine below_set ?_ GE200.out) | exact HB.out)⟩

/-! ### tabardref7_Point: function 10 -/
def tabardref7_Point.f (k : Nat) (a0_0 : Bool) (a0_1 : ByteArray) (a0_2 : Int) : Option (Int) := (tabardref7_Right.f k a0_0 a0_1 a0_2).bind fun t203 => (if t203 = true then (some (wrap64 ((a0_1.size : Int) + a0_2))) else (some 0))
set_option maxHeartbeats 8000000 in
set_option maxRecDepth 100000 in
theorem tabardref7_Point.calls (k : Nat) (a0_0 : Bool) (a0_1 : ByteArray) (a0_2 : Int) (r : Int) (w : World) (h : tabardref7_Point.f k a0_0 a0_1 a0_2 = some r) :
  Calls Tryz.prog 10 #[.agg #[.bool a0_0,.string a0_1,.int .i64 a0_2]] w fun e w' => e = .returned (.int .i64 r) ∧ Below w.heap.size w w' := by
 have hu23 := Tryz.underlying23
 have HB := Aside0.mk (Below.refl w.heap.size w)
 have H : ((tabardref7_Right.f k a0_0 a0_1 a0_2).bind fun t203 => (if t203 = true then (some (wrap64 ((a0_1.size : Int) + a0_2))) else (some 0))) = some r := h
 clear h
 replace H := Option.bind_eq_some_iff.mp H
 obtain ⟨t203,A20,H⟩ := H
 replace H : (if t203 = true then (some (wrap64 ((a0_1.size : Int) + a0_2))) else (some 0)) = some r := H
 have A2 := Aside0.mk A20
 clear A20
 by_cases c3 : t203 = true
 ·subst c3
  have H1 : (some (wrap64 ((a0_1.size : Int) + a0_2))) = some r := by rw [if_pos rfl] at H;exact H
  clear H
  have H := H1
  clear H1
  obtain rfl := Option.some.inj H
  go_enter Tryz.func10,Tryz.ntmps10
  go_wp2_with (first | ((with_reducible refine gate_dst (N := 1) rfl ?_);refine box_event ?hg (N := 1) ?hd (cs := #[.bool a0_0,.string a0_1,.int .i64 a0_2]) (t := 23) ?hr ?_;(case hd => rfl);(case hg => rfl);(case hr => first | (go_simp;done) | (go_simp;rfl));intro gb202 hg w4 hbox hb;have n0_ := Aside0.mk (below_step (by repeat (first | (with_reducible first | exact HB.out | apply below_alloc | apply pw_below_drewN | apply below_drew1) | exact HB.out)) hb);have n1_ := Aside0.mk (hbox);have n2_ := Aside0.mk ((by rw [hg];exact (below_size (by repeat (first | (with_reducible first | exact HB.out | apply below_alloc | apply pw_below_drewN | apply below_drew1) | exact HB.out))) : w.heap.size ≤ gb202));have n3_ := Aside0.mk ((by rw [hg];exact (below_size (by repeat (first | (with_reducible first | exact HB.out | apply below_alloc | apply pw_below_drewN | apply below_drew1) | exact HB.out))) : w.heap.size ≤ gb202));clear HB;have HB := n0_;have BK202 := n1_;have GW202 := n2_;have GE202 := n3_;clear n0_ n1_ n2_ n3_;clear hb hbox hg;have hcz5_0 : w4.cell? ⟨gb202,0,none⟩ = some (.bool a0_0) := (blk_cell BK202.out 0).trans rfl;have hcz5_1 : w4.cell? ⟨gb202,1,none⟩ = some (.string a0_1) := (blk_cell BK202.out 1).trans rfl;have hcz5_2 : w4.cell? ⟨gb202,2,none⟩ = some (.int .i64 a0_2) := (blk_cell BK202.out 2).trans rfl;have hfz5_0 := blk_frozen BK202.out 0;have hfz5_1 := blk_frozen BK202.out 1;have hfz5_2 := blk_frozen BK202.out 2) | ((with_reducible refine gate_callee (f := 8) rfl ?_);refine goesL_ (some 5) rfl rfl Tryz.func8 (by kernel_rfl) rfl #[.agg #[.bool a0_0,.string a0_1,.int .i64 a0_2]] rfl (by (try simp only [List.map_toArray,List.map_cons,List.map_nil]);first | done | rfl | (simp only [List.length_drop,List.length_take];rfl)) ?_;(with_reducible refine (tabardref7_Right.calls k a0_0 a0_1 a0_2 true _ A2.out).mono ?_);rintro e w6 ⟨rfl,hb⟩;refine ⟨_,rfl,?_⟩;have n0_ := Aside0.mk (blk_below (g := gb202) (o := .cells #[.bool a0_0,.string a0_1,.int .i64 a0_2] 23 (0,0)) (by (with_reducible repeat (first | refine blk_drewN ?_ _ | refine blk_drew ?_ | refine blk_alloc ?_ _));exact BK202.out) hb);have n1_ := Aside0.mk (below_step (by repeat (first | (with_reducible first | exact HB.out | apply below_alloc | apply pw_below_drewN | apply below_drew1 | refine below_set ?_ GE202.out) | exact HB.out)) hb);clear BK202;clear HB;have BK202 := n0_;have HB := n1_;clear n0_ n1_;(try clear hb);(try clear hb2);(try clear hk);(try clear hi);have hcz7_0 : w6.cell? ⟨gb202,0,none⟩ = some (.bool a0_0) := (blk_cell BK202.out 0).trans rfl;have hcz7_1 : w6.cell? ⟨gb202,1,none⟩ = some (.string a0_1) := (blk_cell BK202.out 1).trans rfl;have hcz7_2 : w6.cell? ⟨gb202,2,none⟩ = some (.int .i64 a0_2) := (blk_cell BK202.out 2).trans rfl;have hfz7_0 := blk_frozen BK202.out 0;have hfz7_1 := blk_frozen BK202.out 1;have hfz7_2 := blk_frozen BK202.out 2))
  go_ret
  exact ⟨by first | rfl | (simp [errW_none,errW_some] <;> rfl) | (simp [*,errW_none,errW_some] <;> rfl),by repeat (first | (with_reducible first | exact HB.out | apply below_alloc | apply pw_below_drewN | apply below_drew1 | refine below_set ?_ GE202.out) | exact HB.out)⟩
 ·replace c3 := Bool.eq_false_iff.mpr c3
  subst c3
  have H1 : (some 0) = some r := by rw [if_neg (show ¬ (false = true) by decide)] at H;exact H
  clear H
  have H := H1
  clear H1
  obtain rfl := Option.some.inj H
  go_enter Tryz.func10,Tryz.ntmps10
  go_wp2_with (first | ((with_reducible refine gate_dst (N := 1) rfl ?_);refine box_event ?hg (N := 1) ?hd (cs := #[.bool a0_0,.string a0_1,.int .i64 a0_2]) (t := 23) ?hr ?_;(case hd => rfl);(case hg => rfl);(case hr => first | (go_simp;done) | (go_simp;rfl));intro gb202 hg w8 hbox hb;have n0_ := Aside0.mk (below_step (by repeat (first | (with_reducible first | exact HB.out | apply below_alloc | apply pw_below_drewN | apply below_drew1) | exact HB.out)) hb);have n1_ := Aside0.mk (hbox);have n2_ := Aside0.mk ((by rw [hg];exact (below_size (by repeat (first | (with_reducible first | exact HB.out | apply below_alloc | apply pw_below_drewN | apply below_drew1) | exact HB.out))) : w.heap.size ≤ gb202));have n3_ := Aside0.mk ((by rw [hg];exact (below_size (by repeat (first | (with_reducible first | exact HB.out | apply below_alloc | apply pw_below_drewN | apply below_drew1) | exact HB.out))) : w.heap.size ≤ gb202));clear HB;have HB := n0_;have BK202 := n1_;have GW202 := n2_;have GE202 := n3_;clear n0_ n1_ n2_ n3_;clear hb hbox hg;have hcz9_0 : w8.cell? ⟨gb202,0,none⟩ = some (.bool a0_0) := (blk_cell BK202.out 0).trans rfl;have hcz9_1 : w8.cell? ⟨gb202,1,none⟩ = some (.string a0_1) := (blk_cell BK202.out 1).trans rfl;have hcz9_2 : w8.cell? ⟨gb202,2,none⟩ = some (.int .i64 a0_2) := (blk_cell BK202.out 2).trans rfl;have hfz9_0 := blk_frozen BK202.out 0;have hfz9_1 := blk_frozen BK202.out 1;have hfz9_2 := blk_frozen BK202.out 2) | ((with_reducible refine gate_callee (f := 8) rfl ?_);refine goesL_ (some 5) rfl rfl Tryz.func8 (by kernel_rfl) rfl #[.agg #[.bool a0_0,.string a0_1,.int .i64 a0_2]] rfl (by (try simp only [List.map_toArray,List.map_cons,List.map_nil]);first | done | rfl | (simp only [List.length_drop,List.length_take];rfl)) ?_;(with_reducible refine (tabardref7_Right.calls k a0_0 a0_1 a0_2 false _ A2.out).mono ?_);rintro e w10 ⟨rfl,hb⟩;refine ⟨_,rfl,?_⟩;have n0_ := Aside0.mk (blk_below (g := gb202) (o := .cells #[.bool a0_0,.string a0_1,.int .i64 a0_2] 23 (0,0)) (by (with_reducible repeat (first | refine blk_drewN ?_ _ | refine blk_drew ?_ | refine blk_alloc ?_ _));exact BK202.out) hb);have n1_ := Aside0.mk (below_step (by repeat (first | (with_reducible first | exact HB.out | apply below_alloc | apply pw_below_drewN | apply below_drew1 | refine below_set ?_ GE202.out) | exact HB.out)) hb);clear BK202;clear HB;have BK202 := n0_;have HB := n1_;clear n0_ n1_;(try clear hb);(try clear hb2);(try clear hk);(try clear hi)))
  go_ret
  exact ⟨by first | rfl | (simp [errW_none,errW_some] <;> rfl) | (simp [*,errW_none,errW_some] <;> rfl),by repeat (first | (with_reducible first | exact HB.out | apply below_alloc | apply pw_below_drewN | apply below_drew1 | refine below_set ?_ GE202.out) | exact HB.out)⟩

end Go.Proofs.YtneeeaafhjaooaaGreatDoor.P
