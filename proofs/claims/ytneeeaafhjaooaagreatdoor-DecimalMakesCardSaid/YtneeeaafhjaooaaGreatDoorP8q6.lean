-- Printed by a program of this session (wip/tools) over the kit's print: not trusted, Lean checks it.
import Derived.Test.YtneeeaafhjaooaaGreatDoorP0q6
import Derived.Test.YtneeeaafhjaooaaGreatDoorProg
import Derived.Test.YtneeeaafhjaooaaGreatDoorElibq6
import Derived.Test.YtneeeaafhjaooaaGreatDoorP7q6
import Derived.Test.YtneeeaafhjaooaaGreatDoorLibsq6
namespace Go.Proofs.YtneeeaafhjaooaaGreatDoor.P
set_option linter.all false
open Go.RowKit Go.Proofs.YtneeeaafhjaooaaGreatDoorW.PrintWords Go.Proofs.YtneeeaafhjaooaaGreatDoorW.PrintLast Go.Proofs.YtneeeaafhjaooaaGreatDoorW.PrintMore
attribute [local go_sem] max2_int min2_int max_two min_two max_three min_three max_four min_four   -- for this text's walks alone
attribute [local go_sem] cell_after
set_option linter.unusedVariables false
set_option linter.unusedSimpArgs false

/-! ### tabardref7_Make: function 6 -/
mutual
def tabardref7_Make.l0 : Nat → Bool → ByteArray → Int → Int → Option (Bool × ByteArray × Int × Int)
 | 0,_,_,_,_ => none
 | k + 1,x0,x1,x2,x8 => if x8 < (x1.size : Int) then (if 0 ≤ x8 then ((tabardref7_digit.f (bt x1 x8)).bind fun t205 => (if t205 = true then (tabardref7_Make.l0 k x0 x1 x2 (wrap64 (x8 + 1))) else (some (false,(⟨#[]⟩ : ByteArray),0,3)))) else (none)) else (tabardref7_Make.l1 k x0 x1 x2 0)
def tabardref7_Make.j2 : Nat → Bool → ByteArray → Int → Int → Option (Bool × ByteArray × Int × Int)
 | 0,_,_,_,_ => none
 | k + 1,x0,x1,x2,x10 => tabardref7_Make.l2 k x0 x1 x2 x10 (x1.size : Int) 0
def tabardref7_Make.j4 : Nat → Bool → ByteArray → Int → Int → Int → Int → Option (Bool × ByteArray × Int × Int)
 | 0,_,_,_,_,_,_ => none
 | k + 1,x0,x1,x2,x10,x11,x12 => if x10 = x11 then (some (x0,(⟨#[]⟩ : ByteArray),0,0)) else (if (wrap64 (x11 - x10)) > 1100 then (some (false,(⟨#[]⟩ : ByteArray),0,2)) else (if x2 > 100000 then (some (false,(⟨#[]⟩ : ByteArray),0,2)) else (if x2 < (wrap64 ((-100000) - x12)) then (some (false,(⟨#[]⟩ : ByteArray),0,2)) else (if (wrap64 (x2 + x12)) > 100000 then (some (false,(⟨#[]⟩ : ByteArray),0,2)) else (if 0 ≤ x10 then (if x10 ≤ x11 then (if x11 ≤ (x1.size : Int) then (some (x0,x1.extract (x10 : Int).toNat (x11 : Int).toNat,wrap64 (x2 + x12),0)) else (none)) else (none)) else (none))))))
def tabardref7_Make.l2 : Nat → Bool → ByteArray → Int → Int → Int → Int → Option (Bool × ByteArray × Int × Int)
 | 0,_,_,_,_,_,_ => none
 | k + 1,x0,x1,x2,x10,x11,x12 => if x11 > x10 then (if 0 ≤ (wrap64 (x11 - 1)) then (if (wrap64 (x11 - 1)) < (x1.size : Int) then (if (bt x1 (wrap64 (x11 - 1))) = 48 then (tabardref7_Make.l2 k x0 x1 x2 x10 (wrap64 (x11 - 1)) (wrap64 (x12 + 1))) else (tabardref7_Make.j4 k x0 x1 x2 x10 x11 x12)) else (none)) else (none)) else (tabardref7_Make.j4 k x0 x1 x2 x10 x11 x12)
def tabardref7_Make.l1 : Nat → Bool → ByteArray → Int → Int → Option (Bool × ByteArray × Int × Int)
 | 0,_,_,_,_ => none
 | k + 1,x0,x1,x2,x10 => if x10 < (x1.size : Int) then (if 0 ≤ x10 then (if (bt x1 x10) = 48 then (tabardref7_Make.l1 k x0 x1 x2 (wrap64 (x10 + 1))) else (tabardref7_Make.j2 k x0 x1 x2 x10)) else (none)) else (tabardref7_Make.j2 k x0 x1 x2 x10)
end
def tabardref7_Make.f (k : Nat) (a0 : Bool) (a1 : ByteArray) (a2 : Int) : Option (Bool × ByteArray × Int × Int) := tabardref7_Make.l0 k a0 a1 a2 0
set_option maxHeartbeats 8000000 in
set_option maxRecDepth 100000 in
theorem tabardref7_Make.calls (k : Nat) (a0 : Bool) (a1 : ByteArray) (a2 : Int) (r1 : Bool) (r2 : ByteArray) (r3 : Int) (r4 : Int) (w : World) (h : tabardref7_Make.f k a0 a1 a2 = some (r1,r2,r3,r4)) :
  Calls Tryz.prog 6 #[.bool a0,.string a1,.int .i64 a2] w fun e w' => e = .returned (.tuple #[.agg #[.bool r1,.string r2,.int .i64 r3],.int .i64 r4]) ∧ Below w.heap.size w w' := by
 have hu23 := Tryz.underlying23
 have HB := Aside0.mk (Below.refl w.heap.size w)
 have H : (tabardref7_Make.l0 k a0 a1 a2 0) = some (r1,r2,r3,r4) := h
 clear h
 have H' := Aside0.mk H
 clear H
 go_enter Tryz.func6,Tryz.ntmps6
 go_wp2_with (first | ((with_reducible refine gate_dst (N := 6) rfl ?_);refine box_event ?hg (N := 6) ?hd (cs := #[.bool false,.string (⟨#[]⟩ : ByteArray),.int .i64 0]) (t := 23) ?hr ?_;(case hd => rfl);(case hg => rfl);(case hr => first | (go_simp;done) | (go_simp;rfl));intro gb204 hg w4 hbox hb;have n0_ := Aside0.mk (below_step (by repeat (first | (with_reducible first | exact HB.out | apply below_alloc | apply pw_below_drewN | apply below_drew1) | exact HB.out)) hb);have n1_ := Aside0.mk (hbox);have n2_ := Aside0.mk ((by rw [hg];exact (below_size (by repeat (first | (with_reducible first | exact HB.out | apply below_alloc | apply pw_below_drewN | apply below_drew1) | exact HB.out))) : w.heap.size ≤ gb204));have n3_ := Aside0.mk ((by rw [hg];exact (below_size (by repeat (first | (with_reducible first | exact HB.out | apply below_alloc | apply pw_below_drewN | apply below_drew1) | exact HB.out))) : w.heap.size ≤ gb204));clear HB;have HB := n0_;have BK204 := n1_;have GW204 := n2_;have GE204 := n3_;clear n0_ n1_ n2_ n3_;clear hb hbox hg))
 go_loopg [8] k (fun kq v8 w' => ∃ (x8_1 : Int) (x205000_1 : Bool) (x205001_1 : ByteArray) (x205002_1 : Int),v8 = .int .i64 x8_1 ∧ Aside0 (tabardref7_Make.l0 kq a0 a1 a2 x8_1 = some (r1,r2,r3,r4)) ∧ Aside0 (kq ≤ k) ∧ Aside0 (w'.heap[gb204]? = some (.cells #[.bool x205000_1,.string x205001_1,.int .i64 x205002_1] 23 (0,0))) ∧ Aside0 (Below w.heap.size w w'))
 case atStart => exact ⟨(0),(false),((⟨#[]⟩ : ByteArray)),(0),(by first | rfl | (simp;done) | (simp [*];done)),H',⟨Nat.le_refl _⟩,⟨by (with_reducible repeat (first | refine blk_drewN ?_ _ | refine blk_drew ?_ | refine blk_alloc ?_ _));exact BK204.out⟩,⟨by repeat (first | (with_reducible first | exact HB.out | apply below_alloc | apply pw_below_drewN | apply below_drew1 | refine below_set ?_ GE204.out) | exact HB.out)⟩⟩
 case round =>
  clear H'
  try clear p2
  obtain ⟨x8_1,x205000_1,x205001_1,x205002_1,rfl,HA,HK1,BK204,HB⟩ := hrel
  cases gk with
  | zero => exact absurd HA.out (by simp [tabardref7_Make.l0])
  | succ k1 =>
   have H := HA.out
   clear HA
   simp only [tabardref7_Make.l0] at H
   by_cases c5 : x8_1 < (a1.size : Int)
   ·rw [if_pos c5] at H
    have c5b0 : decide (x8_1 < (a1.size : Int)) = true := decide_eq_true c5
    clear c5
    by_cases c6 : 0 ≤ x8_1
    ·rw [if_pos c6] at H
     have c6b0 : decide (0 ≤ x8_1) = true := decide_eq_true c6
     clear c6
     replace H := Option.bind_eq_some_iff.mp H
     obtain ⟨t205,A80,H⟩ := H
     replace H : (if t205 = true then (tabardref7_Make.l0 k1 a0 a1 a2 (wrap64 (x8_1 + 1))) else (some (false,(⟨#[]⟩ : ByteArray),0,3))) = some (r1,r2,r3,r4) := H
     have A8 := Aside0.mk A80
     clear A80
     by_cases c9 : t205 = true
     ·subst c9
      have H1 : (tabardref7_Make.l0 k1 a0 a1 a2 (wrap64 (x8_1 + 1))) = some (r1,r2,r3,r4) := by rw [if_pos rfl] at H;exact H
      clear H
      have H := H1
      clear H1
      have H' := Aside0.mk H
      clear H
      have p7 : 0 ≤ (x8_1 : Int) := of_decide_eq_true (by first | (with_reducible assumption) | assumption)
      have q7 : x8_1 < (a1.size : Int) := of_decide_eq_true (by first | (with_reducible assumption) | assumption)
      have hx7 := bt_at a1 x8_1
      replace p7 := eq_true p7
      replace q7 := eq_true q7
      go_wp2_with (first | ((with_reducible refine gate_callee (f := 21) rfl ?_);refine goesL_ (some 22) rfl rfl Tryz.func21 (by kernel_rfl) rfl #[.int .u8 (bt a1 x8_1)] rfl (by (try simp only [List.map_toArray,List.map_cons,List.map_nil]);first | done | rfl | (simp only [List.length_drop,List.length_take];rfl)) ?_;(with_reducible refine (tabardref7_digit.calls (bt a1 x8_1) true _ A8.out).mono ?_);rintro e w' ⟨rfl,⟨nd,rfl⟩⟩;refine ⟨_,rfl,?_⟩))
      go_roundg k1
      case measure => have := HK1.out;omega
      case rel => exact ⟨(wrap64 (x8_1 + 1)),(x205000_1),(x205001_1),(x205002_1),(by first | rfl | (simp;done) | (simp [*];done)),(by first | exact H' | (rw [hji18];exact H')),⟨by have := HK1.out;omega⟩,⟨by (with_reducible repeat (first | refine blk_drewN ?_ _ | refine blk_drew ?_ | refine blk_alloc ?_ _));exact BK204.out⟩,⟨by repeat (first | (with_reducible first | exact HB.out | apply below_alloc | apply pw_below_drewN | apply below_drew1 | refine below_set ?_ GE204.out) | exact HB.out)⟩⟩
     ·replace c9 := Bool.eq_false_iff.mpr c9
      subst c9
      have H1 : (some (false,(⟨#[]⟩ : ByteArray),0,3)) = some (r1,r2,r3,r4) := by rw [if_neg (show ¬ (false = true) by decide)] at H;exact H
      clear H
      have H := H1
      clear H1
      simp only [Option.some.injEq,Prod.mk.injEq] at H
      obtain ⟨rfl,rfl,rfl,rfl⟩ := H
      have p7 : 0 ≤ (x8_1 : Int) := of_decide_eq_true (by first | (with_reducible assumption) | assumption)
      have q7 : x8_1 < (a1.size : Int) := of_decide_eq_true (by first | (with_reducible assumption) | assumption)
      have hx7 := bt_at a1 x8_1
      replace p7 := eq_true p7
      replace q7 := eq_true q7
      go_wp2_with (first | ((with_reducible refine gate_callee (f := 21) rfl ?_);refine goesL_ (some 22) rfl rfl Tryz.func21 (by kernel_rfl) rfl #[.int .u8 (bt a1 x8_1)] rfl (by (try simp only [List.map_toArray,List.map_cons,List.map_nil]);first | done | rfl | (simp only [List.length_drop,List.length_take];rfl)) ?_;(with_reducible refine (tabardref7_digit.calls (bt a1 x8_1) false _ A8.out).mono ?_);rintro e w' ⟨rfl,⟨nd,rfl⟩⟩;refine ⟨_,rfl,?_⟩;(try (rw [drewN_self wr];generalize hq_ : World.drewN wr _ = wr;have n0_ : Aside0 (wr.heap[gb204]? = some (.cells #[.bool x205000_1,.string x205001_1,.int .i64 x205002_1] 23 (0,0))) := ⟨by rw [← hq_];exact (by (with_reducible repeat (first | refine blk_drewN ?_ _ | refine blk_drew ?_ | refine blk_alloc ?_ _));exact BK204.out)⟩;have n1_ : Aside0 (Below w.heap.size w wr) := ⟨by rw [← hq_];exact (by repeat (first | (with_reducible first | exact HB.out | apply below_alloc | apply pw_below_drewN | apply below_drew1 | refine below_set ?_ GE204.out) | exact HB.out))⟩;clear BK204 HB hq_;have BK204 := n0_;have HB := n1_;clear n0_ n1_));have hcz10_0 : wr.cell? ⟨gb204,0,none⟩ = some (.bool x205000_1) := (blk_cell BK204.out 0).trans rfl;have hcz10_1 : wr.cell? ⟨gb204,1,none⟩ = some (.string x205001_1) := (blk_cell BK204.out 1).trans rfl;have hcz10_2 : wr.cell? ⟨gb204,2,none⟩ = some (.int .i64 x205002_1) := (blk_cell BK204.out 2).trans rfl;have hfz10_0 := blk_frozen BK204.out 0;have hfz10_1 := blk_frozen BK204.out 1;have hfz10_2 := blk_frozen BK204.out 2))
      refine bodyPost_ret (results_ct rfl _ _ gb204 23 #[.bool false,.string (⟨#[]⟩ : ByteArray),.int .i64 0] (0,0) _ rfl (by (with_reducible repeat (first | refine blk_drewN ?_ _ | refine blk_drew ?_ | refine blk_alloc ?_ _));refine blk_put (cs := #[.bool false,.string (⟨#[]⟩ : ByteArray),.int .i64 x205002_1]) ?_ 2 _ rfl;(with_reducible repeat (first | refine blk_drewN ?_ _ | refine blk_drew ?_ | refine blk_alloc ?_ _));refine blk_put (cs := #[.bool false,.string x205001_1,.int .i64 x205002_1]) ?_ 1 _ rfl;(with_reducible repeat (first | refine blk_drewN ?_ _ | refine blk_drew ?_ | refine blk_alloc ?_ _));refine blk_put (cs := #[.bool x205000_1,.string x205001_1,.int .i64 x205002_1]) ?_ 0 _ rfl;(with_reducible repeat (first | refine blk_drewN ?_ _ | refine blk_drew ?_ | refine blk_alloc ?_ _));exact BK204.out) Tryz.underlying23 rfl (by kernel_rfl)) rfl ?_
      exact ⟨by first | rfl | (simp [errW_none,errW_some] <;> rfl) | (simp [*,errW_none,errW_some] <;> rfl),by repeat (first | (with_reducible first | exact HB.out | apply below_alloc | apply pw_below_drewN | apply below_drew1 | refine below_set ?_ GE204.out) | exact HB.out)⟩
    ·rw [if_neg c6] at H
     exact absurd H (by simp)
   ·rw [if_neg c5] at H
    have c5b0 : decide (x8_1 < (a1.size : Int)) = false := decide_eq_false c5
    clear c5
    have HC11 := Aside0.mk H
    clear H
    go_upto_block 2 with (fail)
    go_cut [10] (fun v10 wc => ∃ (kq : Nat) (x10_10 : Int),v10 = .int .i64 x10_10 ∧ Aside0 (tabardref7_Make.j2 kq a0 a1 a2 x10_10 = some (r1,r2,r3,r4)) ∧ Aside0 (kq ≤ k1) ∧ Aside0 (wc.heap[gb204]? = some (.cells #[.bool x205000_1,.string x205001_1,.int .i64 x205002_1] 23 (0,0))) ∧ Aside0 (Below w.heap.size w wc))
    case first =>
     have H := HC11.out
     clear HC11
     have H' := Aside0.mk H
     clear H
     go_wp2
     go_loopg [10] k1 (fun kq v10 w' => ∃ (x10_2 : Int),v10 = .int .i64 x10_2 ∧ Aside0 (tabardref7_Make.l1 kq a0 a1 a2 x10_2 = some (r1,r2,r3,r4)) ∧ Aside0 (kq ≤ k1) ∧ Aside0 (w'.heap[gb204]? = some (.cells #[.bool x205000_1,.string x205001_1,.int .i64 x205002_1] 23 (0,0))) ∧ Aside0 (Below w.heap.size w w'))
     case atStart => exact ⟨(0),(by first | rfl | (simp;done) | (simp [*];done)),H',⟨Nat.le_refl _⟩,⟨by (with_reducible repeat (first | refine blk_drewN ?_ _ | refine blk_drew ?_ | refine blk_alloc ?_ _));exact BK204.out⟩,⟨by repeat (first | (with_reducible first | exact HB.out | apply below_alloc | apply pw_below_drewN | apply below_drew1 | refine below_set ?_ GE204.out) | exact HB.out)⟩⟩
     case round =>
      clear H'
      try clear c2
      try clear p2
      try clear c5
      try clear c5b0
      try clear c6
      try clear c6b0
      try clear p6
      try clear p7
      try clear q7
      try clear hx7
      try clear c9
      try clear hcz10_0
      try clear hcz10_1
      try clear hcz10_2
      try clear hfz10_0
      try clear hfz10_1
      try clear hfz10_2
      try clear p2
      try clear p7
      try clear q7
      obtain ⟨x10_2,rfl,HA,HK2,BK204,HB⟩ := hrel
      cases gk with
      | zero => exact absurd HA.out (by simp [tabardref7_Make.l1])
      | succ k2 =>
       have H := HA.out
       clear HA
       simp only [tabardref7_Make.l1] at H
       by_cases c12 : x10_2 < (a1.size : Int)
       ·rw [if_pos c12] at H
        have c12b0 : decide (x10_2 < (a1.size : Int)) = true := decide_eq_true c12
        clear c12
        (first | rw [c12b0] | (simp only [i64_w,i32_w];rw [c12b0]) | skip)
        by_cases c13 : 0 ≤ x10_2
        ·rw [if_pos c13] at H
         have c13b0 : decide (0 ≤ x10_2) = true := decide_eq_true c13
         clear c13
         by_cases c15 : (bt a1 x10_2) = 48
         ·rw [if_pos c15] at H
          have c15b0 : ((bt a1 x10_2) == 48) = true := beq_iff_eq.mpr c15
          have c15b1 : ((bt a1 x10_2) != 48) = false := bne_eq_false_iff_eq.mpr c15
          clear c15
          have H' := Aside0.mk H
          clear H
          have p14 : 0 ≤ (x10_2 : Int) := of_decide_eq_true (by first | (with_reducible assumption) | assumption)
          have q14 : x10_2 < (a1.size : Int) := of_decide_eq_true (by first | (with_reducible assumption) | assumption)
          have hx14 := bt_at a1 x10_2
          replace p14 := eq_true p14
          replace q14 := eq_true q14
          go_wp2
          go_roundg k2
          case measure => have := HK1.out;have := HK2.out;omega
          case rel => exact ⟨(wrap64 (x10_2 + 1)),(by first | rfl | (simp;done) | (simp [*];done)),(by first | exact H' | (rw [hji18];exact H')),⟨by have := HK1.out;have := HK2.out;omega⟩,⟨by (with_reducible repeat (first | refine blk_drewN ?_ _ | refine blk_drew ?_ | refine blk_alloc ?_ _));exact BK204.out⟩,⟨by repeat (first | (with_reducible first | exact HB.out | apply below_alloc | apply pw_below_drewN | apply below_drew1 | refine below_set ?_ GE204.out) | exact HB.out)⟩⟩
         ·rw [if_neg c15] at H
          have c15b0 : ((bt a1 x10_2) == 48) = false := beq_eq_false_iff_ne.mpr c15
          have c15b1 : ((bt a1 x10_2) != 48) = true := bne_iff_ne.mpr c15
          have H' := Aside0.mk H
          clear H
          have p14 : 0 ≤ (x10_2 : Int) := of_decide_eq_true (by first | (with_reducible assumption) | assumption)
          have q14 : x10_2 < (a1.size : Int) := of_decide_eq_true (by first | (with_reducible assumption) | assumption)
          have hx14 := bt_at a1 x10_2
          replace p14 := eq_true p14
          replace q14 := eq_true q14
          go_wp2
          go_meet
          case rel => exact ⟨_,(x10_2),(by first | rfl | (simp;done) | (simp [*];done)),(by first | exact H' | (rw [hji18];exact H')),⟨by have := HK1.out;have := HK2.out;first | omega | exact Nat.le_refl _⟩,⟨by (with_reducible repeat (first | refine blk_drewN ?_ _ | refine blk_drew ?_ | refine blk_alloc ?_ _));exact BK204.out⟩,⟨by repeat (first | (with_reducible first | exact HB.out | apply below_alloc | apply pw_below_drewN | apply below_drew1 | refine below_set ?_ GE204.out) | exact HB.out)⟩⟩
        ·rw [if_neg c13] at H
         exact absurd H (by simp)
       ·rw [if_neg c12] at H
        have c12b0 : decide (x10_2 < (a1.size : Int)) = false := decide_eq_false c12
        clear c12
        (first | rw [c12b0] | (simp only [i64_w,i32_w];rw [c12b0]) | skip)
        have H' := Aside0.mk H
        clear H
        go_wp2
        go_meet
        case rel => exact ⟨_,(x10_2),(by first | rfl | (simp;done) | (simp [*];done)),(by first | exact H' | (rw [hji18];exact H')),⟨by have := HK1.out;have := HK2.out;first | omega | exact Nat.le_refl _⟩,⟨by (with_reducible repeat (first | refine blk_drewN ?_ _ | refine blk_drew ?_ | refine blk_alloc ?_ _));exact BK204.out⟩,⟨by repeat (first | (with_reducible first | exact HB.out | apply below_alloc | apply pw_below_drewN | apply below_drew1 | refine below_set ?_ GE204.out) | exact HB.out)⟩⟩
    case rest =>
     clear HC11
     try clear c1
     try clear p1
     try clear q1
     try clear hx1
     try clear c2
     try clear p2
     try clear c5
     try clear c5b0
     try clear c6
     try clear c6b0
     try clear p6
     try clear p7
     try clear q7
     try clear hx7
     try clear c9
     try clear c12
     try clear c12b0
     try clear c13
     try clear c13b0
     try clear p14
     try clear q14
     try clear hx14
     try clear c15
     try clear c15b0
     try clear c15b1
     try clear hcz10_0
     try clear hcz10_1
     try clear hcz10_2
     try clear hfz10_0
     try clear hfz10_1
     try clear hfz10_2
     try clear p14
     try clear p2
     try clear p6
     try clear p7
     try clear q14
     try clear q7
     obtain ⟨kq,x10_10,rfl,HA,HJ10,BK204,HB⟩ := hcut
     cases kq with
     | zero => exact absurd HA.out (by simp [tabardref7_Make.j2])
     | succ kj10 =>
      have H := HA.out
      clear HA
      simp only [tabardref7_Make.j2] at H
      have HC16 := Aside0.mk H
      clear H
      go_upto_block 4 with (fail)
      go_cut [11,12] (fun v11 v12 wc => ∃ (kq : Nat) (x11_15 : Int) (x12_15 : Int),v11 = .int .i64 x11_15 ∧ v12 = .int .i64 x12_15 ∧ Aside0 (tabardref7_Make.j4 kq a0 a1 a2 x10_10 x11_15 x12_15 = some (r1,r2,r3,r4)) ∧ Aside0 (kq ≤ kj10) ∧ Aside0 (wc.heap[gb204]? = some (.cells #[.bool x205000_1,.string x205001_1,.int .i64 x205002_1] 23 (0,0))) ∧ Aside0 (Below w.heap.size w wc))
      case first =>
       have H := HC16.out
       clear HC16
       have H' := Aside0.mk H
       clear H
       go_wp2
       go_loopg [11,12] kj10 (fun kq v11 v12 w' => ∃ (x11_3 : Int) (x12_3 : Int),v11 = .int .i64 x11_3 ∧ v12 = .int .i64 x12_3 ∧ Aside0 (tabardref7_Make.l2 kq a0 a1 a2 x10_10 x11_3 x12_3 = some (r1,r2,r3,r4)) ∧ Aside0 (kq ≤ kj10) ∧ Aside0 (w'.heap[gb204]? = some (.cells #[.bool x205000_1,.string x205001_1,.int .i64 x205002_1] 23 (0,0))) ∧ Aside0 (Below w.heap.size w w'))
       case atStart => exact ⟨((a1.size : Int)),(0),(by first | rfl | (simp;done) | (simp [*];done)),(by first | rfl | (simp;done) | (simp [*];done)),H',⟨Nat.le_refl _⟩,⟨by (with_reducible repeat (first | refine blk_drewN ?_ _ | refine blk_drew ?_ | refine blk_alloc ?_ _));exact BK204.out⟩,⟨by repeat (first | (with_reducible first | exact HB.out | apply below_alloc | apply pw_below_drewN | apply below_drew1 | refine below_set ?_ GE204.out) | exact HB.out)⟩⟩
       case round =>
        clear H'
        try clear c1
        try clear p1
        try clear q1
        try clear hx1
        try clear c2
        try clear p2
        try clear c5
        try clear c5b0
        try clear c6
        try clear c6b0
        try clear p6
        try clear p7
        try clear q7
        try clear hx7
        try clear c9
        try clear c12
        try clear c12b0
        try clear c13
        try clear c13b0
        try clear p14
        try clear q14
        try clear hx14
        try clear c15
        try clear c15b0
        try clear c15b1
        try clear hcz10_0
        try clear hcz10_1
        try clear hcz10_2
        try clear hfz10_0
        try clear hfz10_1
        try clear hfz10_2
        try clear p1
        try clear p14
        try clear p2
        try clear p6
        try clear p7
        try clear q1
        try clear q14
        try clear q7
        obtain ⟨x11_3,x12_3,rfl,rfl,HA,HK3,BK204,HB⟩ := hrel
        cases gk with
        | zero => exact absurd HA.out (by simp [tabardref7_Make.l2])
        | succ k3 =>
         have H := HA.out
         clear HA
         simp only [tabardref7_Make.l2] at H
         by_cases c17 : x11_3 > x10_10
         ·rw [if_pos c17] at H
          have c17b0 : decide (x10_10 < x11_3) = true := decide_eq_true c17
          clear c17
          (first | rw [c17b0] | (simp only [i64_w,i32_w];rw [c17b0]) | skip)
          obtain ⟨ji18,hji18⟩ : ∃ j_ : Int,(wrap64 (x11_3 - 1)) = j_ := ⟨_,rfl⟩
          replace H : (if 0 ≤ (ji18) then (if (ji18) < (a1.size : Int) then (if (bt a1 (ji18)) = 48 then (tabardref7_Make.l2 k3 a0 a1 a2 x10_10 ji18 (wrap64 (x12_3 + 1))) else (tabardref7_Make.j4 k3 a0 a1 a2 x10_10 x11_3 x12_3)) else (none)) else (none)) = some (r1,r2,r3,r4) := by first | (rw [hji18] at H;exact H) | (simp only [hji18] at H ⊢;exact H)
          have hji18w : (IntKind.i64.wrap (x11_3 - 1)) = ji18 := (i64_w _).trans hji18
          by_cases c19 : 0 ≤ (ji18)
          ·rw [if_pos c19] at H
           have c19b0 : decide (0 ≤ (ji18)) = true := decide_eq_true c19
           clear c19
           by_cases c20 : (ji18) < (a1.size : Int)
           ·rw [if_pos c20] at H
            have c20b0 : decide ((ji18) < (a1.size : Int)) = true := decide_eq_true c20
            clear c20
            by_cases c22 : (bt a1 (ji18)) = 48
            ·rw [if_pos c22] at H
             have c22b0 : ((bt a1 (ji18)) == 48) = true := beq_iff_eq.mpr c22
             have c22b1 : ((bt a1 (ji18)) != 48) = false := bne_eq_false_iff_eq.mpr c22
             clear c22
             have H' := Aside0.mk H
             clear H
             have p21 : 0 ≤ ((ji18) : Int) := of_decide_eq_true (by first | (with_reducible assumption) | assumption)
             have q21 : (ji18) < (a1.size : Int) := of_decide_eq_true (by first | (with_reducible assumption) | assumption)
             have hx21 := bt_at a1 (ji18)
             replace p21 := eq_true p21
             replace q21 := eq_true q21
             go_wp2
             go_roundg k3
             case measure => have := HK1.out;have := HJ10.out;have := HK3.out;omega
             case rel => exact ⟨(ji18),(wrap64 (x12_3 + 1)),(by first | rfl | (simp;done) | (simp only [← hji18] <;> (first | rfl | simp)) | (simp [*];done)),(by first | rfl | (simp;done) | (simp [*];done)),(by first | exact H' | (rw [hji18];exact H')),⟨by have := HK1.out;have := HJ10.out;have := HK3.out;omega⟩,⟨by (with_reducible repeat (first | refine blk_drewN ?_ _ | refine blk_drew ?_ | refine blk_alloc ?_ _));exact BK204.out⟩,⟨by repeat (first | (with_reducible first | exact HB.out | apply below_alloc | apply pw_below_drewN | apply below_drew1 | refine below_set ?_ GE204.out) | exact HB.out)⟩⟩
            ·rw [if_neg c22] at H
             have c22b0 : ((bt a1 (ji18)) == 48) = false := beq_eq_false_iff_ne.mpr c22
             have c22b1 : ((bt a1 (ji18)) != 48) = true := bne_iff_ne.mpr c22
             have H' := Aside0.mk H
             clear H
             have p21 : 0 ≤ ((ji18) : Int) := of_decide_eq_true (by first | (with_reducible assumption) | assumption)
             have q21 : (ji18) < (a1.size : Int) := of_decide_eq_true (by first | (with_reducible assumption) | assumption)
             have hx21 := bt_at a1 (ji18)
             replace p21 := eq_true p21
             replace q21 := eq_true q21
             go_wp2
             go_meet
             case rel => exact ⟨_,(x11_3),(x12_3),(by first | rfl | (simp;done) | (simp [*];done)),(by first | rfl | (simp;done) | (simp [*];done)),(by first | exact H' | (rw [hji18];exact H')),⟨by have := HK1.out;have := HJ10.out;have := HK3.out;first | omega | exact Nat.le_refl _⟩,⟨by (with_reducible repeat (first | refine blk_drewN ?_ _ | refine blk_drew ?_ | refine blk_alloc ?_ _));exact BK204.out⟩,⟨by repeat (first | (with_reducible first | exact HB.out | apply below_alloc | apply pw_below_drewN | apply below_drew1 | refine below_set ?_ GE204.out) | exact HB.out)⟩⟩
           ·rw [if_neg c20] at H
            exact absurd H (by simp)
          ·rw [if_neg c19] at H
           exact absurd H (by simp)
         ·rw [if_neg c17] at H
          have c17b0 : decide (x10_10 < x11_3) = false := decide_eq_false c17
          clear c17
          (first | rw [c17b0] | (simp only [i64_w,i32_w];rw [c17b0]) | skip)
          have H' := Aside0.mk H
          clear H
          go_wp2
          go_meet
          case rel => exact ⟨_,(x11_3),(x12_3),(by first | rfl | (simp;done) | (simp [*];done)),(by first | rfl | (simp;done) | (simp [*];done)),(by first | exact H' | (rw [hji18];exact H')),⟨by have := HK1.out;have := HJ10.out;have := HK3.out;first | omega | exact Nat.le_refl _⟩,⟨by (with_reducible repeat (first | refine blk_drewN ?_ _ | refine blk_drew ?_ | refine blk_alloc ?_ _));exact BK204.out⟩,⟨by repeat (first | (with_reducible first | exact HB.out | apply below_alloc | apply pw_below_drewN | apply below_drew1 | refine below_set ?_ GE204.out) | exact HB.out)⟩⟩
      case rest =>
       clear HC16
       try clear c1
       try clear p1
       try clear q1
       try clear hx1
       try clear c2
       try clear p2
       try clear q2
       try clear hx2
       try clear c5
       try clear c5b0
       try clear c6
       try clear c6b0
       try clear p6
       try clear p7
       try clear q7
       try clear hx7
       try clear c9
       try clear c12
       try clear c12b0
       try clear c13
       try clear c13b0
       try clear p14
       try clear q14
       try clear hx14
       try clear c15
       try clear c15b0
       try clear c15b1
       try clear c17
       try clear c17b0
       try clear c19
       try clear c19b0
       try clear c20
       try clear c20b0
       try clear c21
       try clear p21
       try clear q21
       try clear hx21
       try clear c22
       try clear c22b0
       try clear c22b1
       try clear hcz10_0
       try clear hcz10_1
       try clear hcz10_2
       try clear hfz10_0
       try clear hfz10_1
       try clear hfz10_2
       try clear p1
       try clear p14
       try clear p2
       try clear p21
       try clear p6
       try clear p7
       try clear q1
       try clear q14
       try clear q21
       try clear q7
       obtain ⟨kq,x11_15,x12_15,rfl,rfl,HA,HJ15,BK204,HB⟩ := hcut
       cases kq with
       | zero => exact absurd HA.out (by simp [tabardref7_Make.j4])
       | succ kj15 =>
        have H := HA.out
        clear HA
        simp only [tabardref7_Make.j4] at H
        by_cases c23 : x10_10 = x11_15
        ·rw [if_pos c23] at H
         have c23b0 : (x10_10 == x11_15) = true := beq_iff_eq.mpr c23
         have c23b1 : (x10_10 != x11_15) = false := bne_eq_false_iff_eq.mpr c23
         clear c23
         simp only [Option.some.injEq,Prod.mk.injEq] at H
         obtain ⟨rfl,rfl,rfl,rfl⟩ := H
         have hcz24_0 : wc.cell? ⟨gb204,0,none⟩ = some (.bool x205000_1) := (blk_cell BK204.out 0).trans rfl
         have hcz24_1 : wc.cell? ⟨gb204,1,none⟩ = some (.string x205001_1) := (blk_cell BK204.out 1).trans rfl
         have hcz24_2 : wc.cell? ⟨gb204,2,none⟩ = some (.int .i64 x205002_1) := (blk_cell BK204.out 2).trans rfl
         have hfz24_0 := blk_frozen BK204.out 0
         have hfz24_1 := blk_frozen BK204.out 1
         have hfz24_2 := blk_frozen BK204.out 2
         go_wp2
         refine bodyPost_ret (results_ct rfl _ _ gb204 23 #[.bool a0,.string (⟨#[]⟩ : ByteArray),.int .i64 0] (0,0) _ rfl (by (with_reducible repeat (first | refine blk_drewN ?_ _ | refine blk_drew ?_ | refine blk_alloc ?_ _));refine blk_put (cs := #[.bool a0,.string (⟨#[]⟩ : ByteArray),.int .i64 x205002_1]) ?_ 2 _ rfl;(with_reducible repeat (first | refine blk_drewN ?_ _ | refine blk_drew ?_ | refine blk_alloc ?_ _));refine blk_put (cs := #[.bool a0,.string x205001_1,.int .i64 x205002_1]) ?_ 1 _ rfl;(with_reducible repeat (first | refine blk_drewN ?_ _ | refine blk_drew ?_ | refine blk_alloc ?_ _));refine blk_put (cs := #[.bool x205000_1,.string x205001_1,.int .i64 x205002_1]) ?_ 0 _ rfl;(with_reducible repeat (first | refine blk_drewN ?_ _ | refine blk_drew ?_ | refine blk_alloc ?_ _));exact BK204.out) Tryz.underlying23 rfl (by kernel_rfl)) rfl ?_
         exact ⟨by first | rfl | (simp [errW_none,errW_some] <;> rfl) | (simp [*,errW_none,errW_some] <;> rfl),by repeat (first | (with_reducible first | exact HB.out | apply below_alloc | apply pw_below_drewN | apply below_drew1 | refine below_set ?_ GE204.out) | exact HB.out)⟩
        ·rw [if_neg c23] at H
         have c23b0 : (x10_10 == x11_15) = false := beq_eq_false_iff_ne.mpr c23
         have c23b1 : (x10_10 != x11_15) = true := bne_iff_ne.mpr c23
         by_cases c25 : (wrap64 (x11_15 - x10_10)) > 1100
         ·rw [if_pos c25] at H
          have c25b0 : decide (1100 < (wrap64 (x11_15 - x10_10))) = true := decide_eq_true c25
          clear c25
          simp only [Option.some.injEq,Prod.mk.injEq] at H
          obtain ⟨rfl,rfl,rfl,rfl⟩ := H
          have hcz26_0 : wc.cell? ⟨gb204,0,none⟩ = some (.bool x205000_1) := (blk_cell BK204.out 0).trans rfl
          have hcz26_1 : wc.cell? ⟨gb204,1,none⟩ = some (.string x205001_1) := (blk_cell BK204.out 1).trans rfl
          have hcz26_2 : wc.cell? ⟨gb204,2,none⟩ = some (.int .i64 x205002_1) := (blk_cell BK204.out 2).trans rfl
          have hfz26_0 := blk_frozen BK204.out 0
          have hfz26_1 := blk_frozen BK204.out 1
          have hfz26_2 := blk_frozen BK204.out 2
          go_wp2
          refine bodyPost_ret (results_ct rfl _ _ gb204 23 #[.bool false,.string (⟨#[]⟩ : ByteArray),.int .i64 0] (0,0) _ rfl (by (with_reducible repeat (first | refine blk_drewN ?_ _ | refine blk_drew ?_ | refine blk_alloc ?_ _));refine blk_put (cs := #[.bool false,.string (⟨#[]⟩ : ByteArray),.int .i64 x205002_1]) ?_ 2 _ rfl;(with_reducible repeat (first | refine blk_drewN ?_ _ | refine blk_drew ?_ | refine blk_alloc ?_ _));refine blk_put (cs := #[.bool false,.string x205001_1,.int .i64 x205002_1]) ?_ 1 _ rfl;(with_reducible repeat (first | refine blk_drewN ?_ _ | refine blk_drew ?_ | refine blk_alloc ?_ _));refine blk_put (cs := #[.bool x205000_1,.string x205001_1,.int .i64 x205002_1]) ?_ 0 _ rfl;(with_reducible repeat (first | refine blk_drewN ?_ _ | refine blk_drew ?_ | refine blk_alloc ?_ _));exact BK204.out) Tryz.underlying23 rfl (by kernel_rfl)) rfl ?_
          exact ⟨by first | rfl | (simp [errW_none,errW_some] <;> rfl) | (simp [*,errW_none,errW_some] <;> rfl),by repeat (first | (with_reducible first | exact HB.out | apply below_alloc | apply pw_below_drewN | apply below_drew1 | refine below_set ?_ GE204.out) | exact HB.out)⟩
         ·rw [if_neg c25] at H
          have c25b0 : decide (1100 < (wrap64 (x11_15 - x10_10))) = false := decide_eq_false c25
          clear c25
          by_cases c27 : a2 > 100000
          ·rw [if_pos c27] at H
           have c27b0 : decide (100000 < a2) = true := decide_eq_true c27
           clear c27
           simp only [Option.some.injEq,Prod.mk.injEq] at H
           obtain ⟨rfl,rfl,rfl,rfl⟩ := H
           have hcz28_0 : wc.cell? ⟨gb204,0,none⟩ = some (.bool x205000_1) := (blk_cell BK204.out 0).trans rfl
           have hcz28_1 : wc.cell? ⟨gb204,1,none⟩ = some (.string x205001_1) := (blk_cell BK204.out 1).trans rfl
           have hcz28_2 : wc.cell? ⟨gb204,2,none⟩ = some (.int .i64 x205002_1) := (blk_cell BK204.out 2).trans rfl
           have hfz28_0 := blk_frozen BK204.out 0
           have hfz28_1 := blk_frozen BK204.out 1
           have hfz28_2 := blk_frozen BK204.out 2
           go_wp2
           refine bodyPost_ret (results_ct rfl _ _ gb204 23 #[.bool false,.string (⟨#[]⟩ : ByteArray),.int .i64 0] (0,0) _ rfl (by (with_reducible repeat (first | refine blk_drewN ?_ _ | refine blk_drew ?_ | refine blk_alloc ?_ _));refine blk_put (cs := #[.bool false,.string (⟨#[]⟩ : ByteArray),.int .i64 x205002_1]) ?_ 2 _ rfl;(with_reducible repeat (first | refine blk_drewN ?_ _ | refine blk_drew ?_ | refine blk_alloc ?_ _));refine blk_put (cs := #[.bool false,.string x205001_1,.int .i64 x205002_1]) ?_ 1 _ rfl;(with_reducible repeat (first | refine blk_drewN ?_ _ | refine blk_drew ?_ | refine blk_alloc ?_ _));refine blk_put (cs := #[.bool x205000_1,.string x205001_1,.int .i64 x205002_1]) ?_ 0 _ rfl;(with_reducible repeat (first | refine blk_drewN ?_ _ | refine blk_drew ?_ | refine blk_alloc ?_ _));exact BK204.out) Tryz.underlying23 rfl (by kernel_rfl)) rfl ?_
           exact ⟨by first | rfl | (simp [errW_none,errW_some] <;> rfl) | (simp [*,errW_none,errW_some] <;> rfl),by repeat (first | (with_reducible first | exact HB.out | apply below_alloc | apply pw_below_drewN | apply below_drew1 | refine below_set ?_ GE204.out) | exact HB.out)⟩
          ·rw [if_neg c27] at H
           have c27b0 : decide (100000 < a2) = false := decide_eq_false c27
           clear c27
           by_cases c29 : a2 < (wrap64 ((-100000) - x12_15))
           ·rw [if_pos c29] at H
            have c29b0 : decide (a2 < (wrap64 ((-100000) - x12_15))) = true := decide_eq_true c29
            clear c29
            simp only [Option.some.injEq,Prod.mk.injEq] at H
            obtain ⟨rfl,rfl,rfl,rfl⟩ := H
            have hcz30_0 : wc.cell? ⟨gb204,0,none⟩ = some (.bool x205000_1) := (blk_cell BK204.out 0).trans rfl
            have hcz30_1 : wc.cell? ⟨gb204,1,none⟩ = some (.string x205001_1) := (blk_cell BK204.out 1).trans rfl
            have hcz30_2 : wc.cell? ⟨gb204,2,none⟩ = some (.int .i64 x205002_1) := (blk_cell BK204.out 2).trans rfl
            have hfz30_0 := blk_frozen BK204.out 0
            have hfz30_1 := blk_frozen BK204.out 1
            have hfz30_2 := blk_frozen BK204.out 2
            go_wp2
            refine bodyPost_ret (results_ct rfl _ _ gb204 23 #[.bool false,.string (⟨#[]⟩ : ByteArray),.int .i64 0] (0,0) _ rfl (by (with_reducible repeat (first | refine blk_drewN ?_ _ | refine blk_drew ?_ | refine blk_alloc ?_ _));refine blk_put (cs := #[.bool false,.string (⟨#[]⟩ : ByteArray),.int .i64 x205002_1]) ?_ 2 _ rfl;(with_reducible repeat (first | refine blk_drewN ?_ _ | refine blk_drew ?_ | refine blk_alloc ?_ _));refine blk_put (cs := #[.bool false,.string x205001_1,.int .i64 x205002_1]) ?_ 1 _ rfl;(with_reducible repeat (first | refine blk_drewN ?_ _ | refine blk_drew ?_ | refine blk_alloc ?_ _));refine blk_put (cs := #[.bool x205000_1,.string x205001_1,.int .i64 x205002_1]) ?_ 0 _ rfl;(with_reducible repeat (first | refine blk_drewN ?_ _ | refine blk_drew ?_ | refine blk_alloc ?_ _));exact BK204.out) Tryz.underlying23 rfl (by kernel_rfl)) rfl ?_
            exact ⟨by first | rfl | (simp [errW_none,errW_some] <;> rfl) | (simp [*,errW_none,errW_some] <;> rfl),by repeat (first | (with_reducible first | exact HB.out | apply below_alloc | apply pw_below_drewN | apply below_drew1 | refine below_set ?_ GE204.out) | exact HB.out)⟩
           ·rw [if_neg c29] at H
            have c29b0 : decide (a2 < (wrap64 ((-100000) - x12_15))) = false := decide_eq_false c29
            clear c29
            by_cases c31 : (wrap64 (a2 + x12_15)) > 100000
            ·rw [if_pos c31] at H
             have c31b0 : decide (100000 < (wrap64 (a2 + x12_15))) = true := decide_eq_true c31
             clear c31
             simp only [Option.some.injEq,Prod.mk.injEq] at H
             obtain ⟨rfl,rfl,rfl,rfl⟩ := H
             have hcz32_0 : wc.cell? ⟨gb204,0,none⟩ = some (.bool x205000_1) := (blk_cell BK204.out 0).trans rfl
             have hcz32_1 : wc.cell? ⟨gb204,1,none⟩ = some (.string x205001_1) := (blk_cell BK204.out 1).trans rfl
             have hcz32_2 : wc.cell? ⟨gb204,2,none⟩ = some (.int .i64 x205002_1) := (blk_cell BK204.out 2).trans rfl
             have hfz32_0 := blk_frozen BK204.out 0
             have hfz32_1 := blk_frozen BK204.out 1
             have hfz32_2 := blk_frozen BK204.out 2
             go_wp2
             refine bodyPost_ret (results_ct rfl _ _ gb204 23 #[.bool false,.string (⟨#[]⟩ : ByteArray),.int .i64 0] (0,0) _ rfl (by (with_reducible repeat (first | refine blk_drewN ?_ _ | refine blk_drew ?_ | refine blk_alloc ?_ _));refine blk_put (cs := #[.bool false,.string (⟨#[]⟩ : ByteArray),.int .i64 x205002_1]) ?_ 2 _ rfl;(with_reducible repeat (first | refine blk_drewN ?_ _ | refine blk_drew ?_ | refine blk_alloc ?_ _));refine blk_put (cs := #[.bool false,.string x205001_1,.int .i64 x205002_1]) ?_ 1 _ rfl;(with_reducible repeat (first | refine blk_drewN ?_ _ | refine blk_drew ?_ | refine blk_alloc ?_ _));refine blk_put (cs := #[.bool x205000_1,.string x205001_1,.int .i64 x205002_1]) ?_ 0 _ rfl;(with_reducible repeat (first | refine blk_drewN ?_ _ | refine blk_drew ?_ | refine blk_alloc ?_ _));exact BK204.out) Tryz.underlying23 rfl (by kernel_rfl)) rfl ?_
             exact ⟨by first | rfl | (simp [errW_none,errW_some] <;> rfl) | (simp [*,errW_none,errW_some] <;> rfl),by repeat (first | (with_reducible first | exact HB.out | apply below_alloc | apply pw_below_drewN | apply below_drew1 | refine below_set ?_ GE204.out) | exact HB.out)⟩
            ·rw [if_neg c31] at H
             have c31b0 : decide (100000 < (wrap64 (a2 + x12_15))) = false := decide_eq_false c31
             clear c31
             by_cases c33 : 0 ≤ x10_10
             ·rw [if_pos c33] at H
              have c33b0 := eq_true c33
              have c33b1 : decide (0 ≤ x10_10) = true := decide_eq_true c33
              clear c33
              by_cases c34 : x10_10 ≤ x11_15
              ·rw [if_pos c34] at H
               have c34b0 := eq_true c34
               have c34b1 : decide (x10_10 ≤ x11_15) = true := decide_eq_true c34
               clear c34
               by_cases c35 : x11_15 ≤ (a1.size : Int)
               ·rw [if_pos c35] at H
                have c35b0 := eq_true c35
                have c35b1 : decide (x11_15 ≤ (a1.size : Int)) = true := decide_eq_true c35
                clear c35
                simp only [Option.some.injEq,Prod.mk.injEq] at H
                obtain ⟨rfl,rfl,rfl,rfl⟩ := H
                have hcz36_0 : wc.cell? ⟨gb204,0,none⟩ = some (.bool x205000_1) := (blk_cell BK204.out 0).trans rfl
                have hcz36_1 : wc.cell? ⟨gb204,1,none⟩ = some (.string x205001_1) := (blk_cell BK204.out 1).trans rfl
                have hcz36_2 : wc.cell? ⟨gb204,2,none⟩ = some (.int .i64 x205002_1) := (blk_cell BK204.out 2).trans rfl
                have hfz36_0 := blk_frozen BK204.out 0
                have hfz36_1 := blk_frozen BK204.out 1
                have hfz36_2 := blk_frozen BK204.out 2
                go_wp2
                refine bodyPost_ret (results_ct rfl _ _ gb204 23 #[.bool a0,.string (a1.extract (x10_10 : Int).toNat (x11_15 : Int).toNat),.int .i64 (wrap64 (a2 + x12_15))] (0,0) _ rfl (by (with_reducible repeat (first | refine blk_drewN ?_ _ | refine blk_drew ?_ | refine blk_alloc ?_ _));refine blk_put (cs := #[.bool a0,.string (a1.extract (x10_10 : Int).toNat (x11_15 : Int).toNat),.int .i64 x205002_1]) ?_ 2 _ rfl;(with_reducible repeat (first | refine blk_drewN ?_ _ | refine blk_drew ?_ | refine blk_alloc ?_ _));refine blk_put (cs := #[.bool a0,.string x205001_1,.int .i64 x205002_1]) ?_ 1 _ rfl;(with_reducible repeat (first | refine blk_drewN ?_ _ | refine blk_drew ?_ | refine blk_alloc ?_ _));refine blk_put (cs := #[.bool x205000_1,.string x205001_1,.int .i64 x205002_1]) ?_ 0 _ rfl;(with_reducible repeat (first | refine blk_drewN ?_ _ | refine blk_drew ?_ | refine blk_alloc ?_ _));exact BK204.out) Tryz.underlying23 rfl (by kernel_rfl)) rfl ?_
                exact ⟨by first | rfl | (simp [errW_none,errW_some] <;> rfl) | (simp [*,errW_none,errW_some] <;> rfl),by repeat (first | (with_reducible first | exact HB.out | apply below_alloc | apply pw_below_drewN | apply below_drew1 | refine below_set ?_ GE204.out) | exact HB.out)⟩
               ·rw [if_neg c35] at H
                exact absurd H (by simp)
              ·rw [if_neg c34] at H
               exact absurd H (by simp)
             ·rw [if_neg c33] at H
              exact absurd H (by simp)

/-! ### tabardref7_at: function 44 -/
def tabardref7_at.f (a0_0 : Bool) (a0_1 : ByteArray) (a0_2 : Int) (a1 : Int) : Option (Int) := if (wrap64 ((wrap64 ((wrap64 ((a0_1.size : Int) - 1)) + a0_2)) - a1)) < 0 then (some 48) else (if (wrap64 ((wrap64 ((wrap64 ((a0_1.size : Int) - 1)) + a0_2)) - a1)) ≥ (a0_1.size : Int) then (some 48) else (if 0 ≤ (wrap64 ((wrap64 ((wrap64 ((a0_1.size : Int) - 1)) + a0_2)) - a1)) then (if (wrap64 ((wrap64 ((wrap64 ((a0_1.size : Int) - 1)) + a0_2)) - a1)) < (a0_1.size : Int) then (some (bt a0_1 (wrap64 ((wrap64 ((wrap64 ((a0_1.size : Int) - 1)) + a0_2)) - a1)))) else (none)) else (none)))
set_option maxHeartbeats 8000000 in
set_option maxRecDepth 100000 in
theorem tabardref7_at.calls (a0_0 : Bool) (a0_1 : ByteArray) (a0_2 : Int) (a1 : Int) (r : Int) (w : World) (h : tabardref7_at.f a0_0 a0_1 a0_2 a1 = some r) :
  Calls Tryz.prog 44 #[.agg #[.bool a0_0,.string a0_1,.int .i64 a0_2],.int .i64 a1] w fun e w' => e = .returned (.int .u8 r) ∧ Below w.heap.size w w' := by
 have hu23 := Tryz.underlying23
 have HB := Aside0.mk (Below.refl w.heap.size w)
 have H : (if (wrap64 ((wrap64 ((wrap64 ((a0_1.size : Int) - 1)) + a0_2)) - a1)) < 0 then (some 48) else (if (wrap64 ((wrap64 ((wrap64 ((a0_1.size : Int) - 1)) + a0_2)) - a1)) ≥ (a0_1.size : Int) then (some 48) else (if 0 ≤ (wrap64 ((wrap64 ((wrap64 ((a0_1.size : Int) - 1)) + a0_2)) - a1)) then (if (wrap64 ((wrap64 ((wrap64 ((a0_1.size : Int) - 1)) + a0_2)) - a1)) < (a0_1.size : Int) then (some (bt a0_1 (wrap64 ((wrap64 ((wrap64 ((a0_1.size : Int) - 1)) + a0_2)) - a1)))) else (none)) else (none)))) = some r := h
 clear h
 by_cases c3 : (wrap64 ((wrap64 ((wrap64 ((a0_1.size : Int) - 1)) + a0_2)) - a1)) < 0
 ·rw [if_pos c3] at H
  have c3b0 : decide ((wrap64 ((wrap64 ((wrap64 ((a0_1.size : Int) - 1)) + a0_2)) - a1)) < 0) = true := decide_eq_true c3
  clear c3
  obtain rfl := Option.some.inj H
  go_enter Tryz.func44,Tryz.ntmps44
  go_wp2_with (first | ((with_reducible refine gate_dst (N := 2) rfl ?_);(try (refine gate_guard (by rfl) ?_;dsimp only));refine box_event ?hg (N := 2) ?hd (cs := #[.bool a0_0,.string a0_1,.int .i64 a0_2]) (t := 23) ?hr ?_;(case hd => rfl);(case hg => rfl);(case hr => first | (go_simp;done) | (go_simp;rfl));intro gb206 hg w4 hbox hb;have n0_ := Aside0.mk (below_step (by repeat (first | (with_reducible first | exact HB.out | apply below_alloc | apply pw_below_drewN | apply below_drew1) | exact HB.out)) hb);have n1_ := Aside0.mk (hbox);have n2_ := Aside0.mk ((by rw [hg];exact (below_size (by repeat (first | (with_reducible first | exact HB.out | apply below_alloc | apply pw_below_drewN | apply below_drew1) | exact HB.out))) : w.heap.size ≤ gb206));have n3_ := Aside0.mk ((by rw [hg];exact (below_size (by repeat (first | (with_reducible first | exact HB.out | apply below_alloc | apply pw_below_drewN | apply below_drew1) | exact HB.out))) : w.heap.size ≤ gb206));clear HB;have HB := n0_;have BK206 := n1_;have GW206 := n2_;have GE206 := n3_;clear n0_ n1_ n2_ n3_;clear hb hbox hg;have hcz5_0 : w4.cell? ⟨gb206,0,none⟩ = some (.bool a0_0) := (blk_cell BK206.out 0).trans rfl;have hcz5_1 : w4.cell? ⟨gb206,1,none⟩ = some (.string a0_1) := (blk_cell BK206.out 1).trans rfl;have hcz5_2 : w4.cell? ⟨gb206,2,none⟩ = some (.int .i64 a0_2) := (blk_cell BK206.out 2).trans rfl;have hfz5_0 := blk_frozen BK206.out 0;have hfz5_1 := blk_frozen BK206.out 1;have hfz5_2 := blk_frozen BK206.out 2))
  go_ret
  exact ⟨by first | rfl | (simp [errW_none,errW_some] <;> rfl) | (simp [*,errW_none,errW_some] <;> rfl),by repeat (first | (with_reducible first | exact HB.out | apply below_alloc | apply pw_below_drewN | apply below_drew1 | refine below_set ?_ GE206.out) | exact HB.out)⟩
 ·rw [if_neg c3] at H
  have c3b0 : decide ((wrap64 ((wrap64 ((wrap64 ((a0_1.size : Int) - 1)) + a0_2)) - a1)) < 0) = false := decide_eq_false c3
  clear c3
  by_cases c6 : (wrap64 ((wrap64 ((wrap64 ((a0_1.size : Int) - 1)) + a0_2)) - a1)) ≥ (a0_1.size : Int)
  ·rw [if_pos c6] at H
   have c6b0 : decide ((a0_1.size : Int) ≤ (wrap64 ((wrap64 ((wrap64 ((a0_1.size : Int) - 1)) + a0_2)) - a1))) = true := decide_eq_true c6
   clear c6
   obtain rfl := Option.some.inj H
   go_enter Tryz.func44,Tryz.ntmps44
   go_wp2_with (first | ((with_reducible refine gate_dst (N := 2) rfl ?_);(try (refine gate_guard (by rfl) ?_;dsimp only));refine box_event ?hg (N := 2) ?hd (cs := #[.bool a0_0,.string a0_1,.int .i64 a0_2]) (t := 23) ?hr ?_;(case hd => rfl);(case hg => rfl);(case hr => first | (go_simp;done) | (go_simp;rfl));intro gb206 hg w7 hbox hb;have n0_ := Aside0.mk (below_step (by repeat (first | (with_reducible first | exact HB.out | apply below_alloc | apply pw_below_drewN | apply below_drew1) | exact HB.out)) hb);have n1_ := Aside0.mk (hbox);have n2_ := Aside0.mk ((by rw [hg];exact (below_size (by repeat (first | (with_reducible first | exact HB.out | apply below_alloc | apply pw_below_drewN | apply below_drew1) | exact HB.out))) : w.heap.size ≤ gb206));have n3_ := Aside0.mk ((by rw [hg];exact (below_size (by repeat (first | (with_reducible first | exact HB.out | apply below_alloc | apply pw_below_drewN | apply below_drew1) | exact HB.out))) : w.heap.size ≤ gb206));clear HB;have HB := n0_;have BK206 := n1_;have GW206 := n2_;have GE206 := n3_;clear n0_ n1_ n2_ n3_;clear hb hbox hg;have hcz8_0 : w7.cell? ⟨gb206,0,none⟩ = some (.bool a0_0) := (blk_cell BK206.out 0).trans rfl;have hcz8_1 : w7.cell? ⟨gb206,1,none⟩ = some (.string a0_1) := (blk_cell BK206.out 1).trans rfl;have hcz8_2 : w7.cell? ⟨gb206,2,none⟩ = some (.int .i64 a0_2) := (blk_cell BK206.out 2).trans rfl;have hfz8_0 := blk_frozen BK206.out 0;have hfz8_1 := blk_frozen BK206.out 1;have hfz8_2 := blk_frozen BK206.out 2))
   go_ret
   exact ⟨by first | rfl | (simp [errW_none,errW_some] <;> rfl) | (simp [*,errW_none,errW_some] <;> rfl),by repeat (first | (with_reducible first | exact HB.out | apply below_alloc | apply pw_below_drewN | apply below_drew1 | refine below_set ?_ GE206.out) | exact HB.out)⟩
  ·rw [if_neg c6] at H
   have c6b0 : decide ((a0_1.size : Int) ≤ (wrap64 ((wrap64 ((wrap64 ((a0_1.size : Int) - 1)) + a0_2)) - a1))) = false := decide_eq_false c6
   clear c6
   obtain ⟨ji9,hji9⟩ : ∃ j_ : Int,(wrap64 ((wrap64 ((wrap64 ((a0_1.size : Int) - 1)) + a0_2)) - a1)) = j_ := ⟨_,rfl⟩
   replace H : (if 0 ≤ (ji9) then (if (ji9) < (a0_1.size : Int) then (some (bt a0_1 (ji9))) else (none)) else (none)) = some r := by first | (rw [hji9] at H;exact H) | (simp only [hji9] at H ⊢;exact H)
   (try rw [hji9] at c3b0)
   (try rw [hji9] at c6b0)
   have hji9w : (IntKind.i64.wrap ((wrap64 ((wrap64 ((a0_1.size : Int) - 1)) + a0_2)) - a1)) = ji9 := (i64_w _).trans hji9
   by_cases c10 : 0 ≤ (ji9)
   ·rw [if_pos c10] at H
    have c10b0 : decide (0 ≤ (ji9)) = true := decide_eq_true c10
    clear c10
    by_cases c11 : (ji9) < (a0_1.size : Int)
    ·rw [if_pos c11] at H
     have c11b0 : decide ((ji9) < (a0_1.size : Int)) = true := decide_eq_true c11
     clear c11
     obtain rfl := Option.some.inj H
     go_enter Tryz.func44,Tryz.ntmps44
     go_wp2_with (first | ((with_reducible refine gate_dst (N := 2) rfl ?_);(try (refine gate_guard (by rfl) ?_;dsimp only));refine box_event ?hg (N := 2) ?hd (cs := #[.bool a0_0,.string a0_1,.int .i64 a0_2]) (t := 23) ?hr ?_;(case hd => rfl);(case hg => rfl);(case hr => first | (go_simp;done) | (go_simp;rfl));intro gb206 hg w13 hbox hb;have n0_ := Aside0.mk (below_step (by repeat (first | (with_reducible first | exact HB.out | apply below_alloc | apply pw_below_drewN | apply below_drew1) | exact HB.out)) hb);have n1_ := Aside0.mk (hbox);have n2_ := Aside0.mk ((by rw [hg];exact (below_size (by repeat (first | (with_reducible first | exact HB.out | apply below_alloc | apply pw_below_drewN | apply below_drew1) | exact HB.out))) : w.heap.size ≤ gb206));have n3_ := Aside0.mk ((by rw [hg];exact (below_size (by repeat (first | (with_reducible first | exact HB.out | apply below_alloc | apply pw_below_drewN | apply below_drew1) | exact HB.out))) : w.heap.size ≤ gb206));clear HB;have HB := n0_;have BK206 := n1_;have GW206 := n2_;have GE206 := n3_;clear n0_ n1_ n2_ n3_;clear hb hbox hg;have hcz14_0 : w13.cell? ⟨gb206,0,none⟩ = some (.bool a0_0) := (blk_cell BK206.out 0).trans rfl;have hcz14_1 : w13.cell? ⟨gb206,1,none⟩ = some (.string a0_1) := (blk_cell BK206.out 1).trans rfl;have hcz14_2 : w13.cell? ⟨gb206,2,none⟩ = some (.int .i64 a0_2) := (blk_cell BK206.out 2).trans rfl;have hfz14_0 := blk_frozen BK206.out 0;have hfz14_1 := blk_frozen BK206.out 1;have hfz14_2 := blk_frozen BK206.out 2;have p12 : 0 ≤ ((ji9) : Int) := of_decide_eq_true (by first | (with_reducible assumption) | assumption);have q12 : (ji9) < (a0_1.size : Int) := of_decide_eq_true (by first | (with_reducible assumption) | assumption);have hx12 := bt_at a0_1 (ji9);replace p12 := eq_true p12;replace q12 := eq_true q12))
     go_ret
     exact ⟨by first | rfl | (simp [errW_none,errW_some] <;> rfl) | (simp only [← hji9];first | rfl | (simp [errW_none,errW_some] <;> rfl)) | (simp [*,errW_none,errW_some] <;> rfl),by repeat (first | (with_reducible first | exact HB.out | apply below_alloc | apply pw_below_drewN | apply below_drew1 | refine below_set ?_ GE206.out) | exact HB.out)⟩
    ·rw [if_neg c11] at H
     exact absurd H (by simp)
   ·rw [if_neg c10] at H
    exact absurd H (by simp)

end Go.Proofs.YtneeeaafhjaooaaGreatDoor.P
