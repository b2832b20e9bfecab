-- Printed by a program of this session (wip/tools) over the kit's print: not trusted, Lean checks it.
import Derived.Test.YtneeeaafhjaooaaGreatDoorP0q6
import Derived.Test.YtneeeaafhjaooaaGreatDoorProg
import Derived.Test.YtneeeaafhjaooaaGreatDoorElibq6
import Derived.Test.YtneeeaafhjaooaaGreatDoorShelfq6
import Derived.Test.YtneeeaafhjaooaaGreatDoorP1q6
import Derived.Test.YtneeeaafhjaooaaGreatDoorLibsq6
namespace Go.Proofs.YtneeeaafhjaooaaGreatDoor.P
set_option linter.all false
open Go.RowKit Go.Proofs.YtneeeaafhjaooaaGreatDoorW.PrintWords Go.Proofs.YtneeeaafhjaooaaGreatDoorW.PrintLast Go.Proofs.YtneeeaafhjaooaaGreatDoorW.PrintMore
attribute [local go_sem] max2_int min2_int max_two min_two max_three min_three max_four min_four   -- for this text's walks alone
attribute [local go_sem] cell_after
set_option linter.unusedVariables false
set_option linter.unusedSimpArgs false

/-! ### decimal_Print: function 17 -/
mutual
def decimal_Print.j0 : Nat → ByteArray → Bool → ByteArray → Int → Option (ByteArray)
 | 0,_,_,_,_ => none
 | k + 1,x3,x193000,x193001,x193002 => (decimal_Point.f x193000 x193001 x193002).bind fun t194 => (if (x193001.size : Int) = 0 then (if x3.size + 1 ≤ 9223372036854775807 then (some (x3 ++ (⟨#[48]⟩ : ByteArray))) else (none)) else (if t194 ≥ 1 then (if t194 ≤ 21 then (decimal_Print.j1 k x3 t194 (x193001.size : Int) (decide (t194 ≥ (x193001.size : Int))) x193000 x193001 x193002) else (decimal_Print.j1 k x3 t194 (x193001.size : Int) false x193000 x193001 x193002)) else (decimal_Print.j1 k x3 t194 (x193001.size : Int) false x193000 x193001 x193002)))
def decimal_Print.j3 : Nat → ByteArray → Int → Int → Bool → ByteArray → Int → Option (ByteArray)
 | 0,_,_,_,_,_,_ => none
 | k + 1,x3,x4,x5,x193000,x193001,x193002 => if 0 ≤ 1 then (if 1 ≤ (x193001.size : Int) then (if x3.size + (x193001.extract 0 1).size ≤ 9223372036854775807 then (if x5 > 1 then (if 1 + (x193001.extract 1 x193001.size).size ≤ 9223372036854775807 then (if (x3 ++ (x193001.extract 0 1)).size + ((⟨#[46]⟩ : ByteArray) ++ (x193001.extract 1 x193001.size)).size ≤ 9223372036854775807 then (decimal_Print.j4 k ((x3 ++ (x193001.extract 0 1)) ++ ((⟨#[46]⟩ : ByteArray) ++ (x193001.extract 1 x193001.size))) x4) else (none)) else (none)) else (decimal_Print.j4 k (x3 ++ (x193001.extract 0 1)) x4)) else (none)) else (none)) else (none)
def decimal_Print.j4 : Nat → ByteArray → Int → Option (ByteArray)
 | 0,_,_ => none
 | k + 1,x3,x4 => if x4 < 1 then (if x3.size + 2 ≤ 9223372036854775807 then ((strconv_Itoa.f (wrap64 (1 - x4))).bind fun t197 => (if (x3 ++ (⟨#[101,45]⟩ : ByteArray)).size + t197.size ≤ 9223372036854775807 then (some ((x3 ++ (⟨#[101,45]⟩ : ByteArray)) ++ t197)) else (none))) else (none)) else (if x3.size + 2 ≤ 9223372036854775807 then ((strconv_Itoa.f (wrap64 (x4 - 1))).bind fun t198 => (if (x3 ++ (⟨#[101,43]⟩ : ByteArray)).size + t198.size ≤ 9223372036854775807 then (some ((x3 ++ (⟨#[101,43]⟩ : ByteArray)) ++ t198)) else (none))) else (none))
def decimal_Print.j1 : Nat → ByteArray → Int → Int → Bool → Bool → ByteArray → Int → Option (ByteArray)
 | 0,_,_,_,_,_,_,_ => none
 | k + 1,x3,x4,x5,x21,x193000,x193001,x193002 => if x21 = true then (if x3.size + x193001.size ≤ 9223372036854775807 then ((strings_Repeat.f (⟨#[48]⟩ : ByteArray) (wrap64 (x4 - x5))).bind fun t195 => (if x3.size + x193001.size + t195.size ≤ 9223372036854775807 then (some ((x3 ++ x193001) ++ t195)) else (none))) else (none)) else (if x4 ≥ 1 then (decimal_Print.j2 k x3 x4 x5 (decide (x4 ≤ 21)) x193000 x193001 x193002) else (decimal_Print.j2 k x3 x4 x5 false x193000 x193001 x193002))
def decimal_Print.j2 : Nat → ByteArray → Int → Int → Bool → Bool → ByteArray → Int → Option (ByteArray)
 | 0,_,_,_,_,_,_,_ => none
 | k + 1,x3,x4,x5,x42,x193000,x193001,x193002 => if x42 = true then (if 0 ≤ x4 then (if x4 ≤ (x193001.size : Int) then (if x3.size + (x4 : Int).toNat ≤ 9223372036854775807 then (if x3.size + (x4 : Int).toNat + 1 ≤ 9223372036854775807 then (if x3.size + (x4 : Int).toNat + 1 + (x193001.size - (x4 : Int).toNat) ≤ 9223372036854775807 then (some (((x3 ++ (x193001.extract 0 (x4 : Int).toNat)) ++ (⟨#[46]⟩ : ByteArray)) ++ (x193001.extract (x4 : Int).toNat x193001.size))) else (none)) else (none)) else (none)) else (none)) else (none)) else (if x4 ≥ (-5) then (if x4 ≤ 0 then (if x3.size + 2 ≤ 9223372036854775807 then ((strings_Repeat.f (⟨#[48]⟩ : ByteArray) (wrap64 (-x4))).bind fun t196 => (if x3.size + 2 + t196.size ≤ 9223372036854775807 then (if x3.size + 2 + t196.size + x193001.size ≤ 9223372036854775807 then (some (((x3 ++ (⟨#[48,46]⟩ : ByteArray)) ++ t196) ++ x193001)) else (none)) else (none))) else (none)) else (decimal_Print.j3 k x3 x4 x5 x193000 x193001 x193002)) else (decimal_Print.j3 k x3 x4 x5 x193000 x193001 x193002))
end
def decimal_Print.f (k : Nat) (a0_0 : Bool) (a0_1 : ByteArray) (a0_2 : Int) : Option (ByteArray) := (decimal_Right.f a0_0 a0_1 a0_2).bind fun t193 => (if t193 = true then (if a0_0 = true then (decimal_Print.j0 k (⟨#[45]⟩ : ByteArray) a0_0 a0_1 a0_2) else (decimal_Print.j0 k (⟨#[]⟩ : ByteArray) a0_0 a0_1 a0_2)) else (some (⟨#[]⟩ : ByteArray)))
def decimal_Print.T10 : Bool × List (List Nat × List Nat) := (true,[([],[]),([],[]),([1],[1]),([0,2],[0,2]),([],[]),([],[]),([4,5],[4,5]),([6],[6]),([3,7],[3,7]),([8,7,0,1,2,3,4,5,6,7,8],[8])])
def decimal_Print.B10 : List Nat := [0,0,2,7,0,0,48,112,255,511]
theorem decimal_Print.tab10 : rtab .any (opsOf Tryz.f17 10) = decimal_Print.T10 := by kernel_rfl
theorem decimal_Print.bits10 : waitsOk decimal_Print.T10.2 decimal_Print.B10 = true := by kernel_rfl
def decimal_Print.T12 : Bool × List (List Nat × List Nat) := (true,[([],[]),([],[]),([1],[1]),([],[]),([2,3],[2,3]),([0,4],[0,4]),([5],[5]),([],[]),([7],[7]),([],[]),([8,9],[8,9]),([6,10],[6,10]),([11,0,1,2,3,4,5,6,7,8,9,10,11],[11])])
def decimal_Print.B12 : List Nat := [0,0,2,0,14,31,63,0,128,0,896,2047,4095]
theorem decimal_Print.tab12 : rtab .any (opsOf Tryz.f17 12) = decimal_Print.T12 := by kernel_rfl
theorem decimal_Print.bits12 : waitsOk decimal_Print.T12.2 decimal_Print.B12 = true := by kernel_rfl
def decimal_Print.T14 : Bool × List (List Nat × List Nat) := (true,[([],[]),([0],[0]),([],[]),([2],[2]),([3],[3]),([1,4],[1,4]),([],[]),([6],[6]),([5,7],[5,7]),([8,4,0,1,2,3,4,5,6,7,8],[8])])
def decimal_Print.B14 : List Nat := [0,1,0,4,12,31,0,64,255,511]
theorem decimal_Print.tab14 : rtab .any (opsOf Tryz.f17 14) = decimal_Print.T14 := by kernel_rfl
theorem decimal_Print.bits14 : waitsOk decimal_Print.T14.2 decimal_Print.B14 = true := by kernel_rfl
set_option maxHeartbeats 8000000 in
set_option maxRecDepth 100000 in
theorem decimal_Print.calls (k : Nat) (a0_0 : Bool) (a0_1 : ByteArray) (a0_2 : Int) (r : ByteArray) (w : World) (hT : Tabs w) (h : decimal_Print.f k a0_0 a0_1 a0_2 = some r) :
  Calls Tryz.prog 17 #[.agg #[.bool a0_0,.string a0_1,.int .i64 a0_2]] w fun e w' => e = .returned (.string r) ∧ Below w.heap.size w w' := by
 have hu23 := Tryz.underlying23
 have HT := Aside0.mk hT
 clear hT
 have HB := Aside0.mk (Below.refl w.heap.size w)
 have H : ((decimal_Right.f a0_0 a0_1 a0_2).bind fun t193 => (if t193 = true then (if a0_0 = true then (decimal_Print.j0 k (⟨#[45]⟩ : ByteArray) a0_0 a0_1 a0_2) else (decimal_Print.j0 k (⟨#[]⟩ : ByteArray) a0_0 a0_1 a0_2)) else (some (⟨#[]⟩ : ByteArray)))) = some r := h
 clear h
 replace H := Option.bind_eq_some_iff.mp H
 obtain ⟨t193,A20,H⟩ := H
 replace H : (if t193 = true then (if a0_0 = true then (decimal_Print.j0 k (⟨#[45]⟩ : ByteArray) a0_0 a0_1 a0_2) else (decimal_Print.j0 k (⟨#[]⟩ : ByteArray) a0_0 a0_1 a0_2)) else (some (⟨#[]⟩ : ByteArray))) = some r := H
 have A2 := Aside0.mk A20
 clear A20
 by_cases c3 : t193 = true
 ·subst c3
  have H1 : (if a0_0 = true then (decimal_Print.j0 k (⟨#[45]⟩ : ByteArray) a0_0 a0_1 a0_2) else (decimal_Print.j0 k (⟨#[]⟩ : ByteArray) a0_0 a0_1 a0_2)) = some r := by rw [if_pos rfl] at H;exact H
  clear H
  have H := H1
  clear H1
  have HC4 := Aside0.mk H
  clear H
  go_enter Tryz.func17,Tryz.ntmps17
  go_upto_if 10 with (first | ((with_reducible refine gate_dst (N := 1) rfl ?_);refine box_event ?hg (N := 1) ?hd (cs := #[.bool a0_0,.string a0_1,.int .i64 a0_2]) (t := 23) ?hr ?_;(case hd => rfl);(case hg => rfl);(case hr => first | (go_simp;done) | (go_simp;rfl));intro gb192 hg w5 hbox hb;have n0_ := Aside0.mk (below_step (by repeat (first | (with_reducible first | exact HB.out | apply below_alloc | apply pw_below_drewN | apply below_drew1) | exact HB.out)) hb);have n1_ := Aside0.mk (hbox);have n2_ := Aside0.mk ((by rw [hg];exact (below_size (by repeat (first | (with_reducible first | exact HB.out | apply below_alloc | apply pw_below_drewN | apply below_drew1) | exact HB.out))) : w.heap.size ≤ gb192));have n3_ := Aside0.mk ((by rw [hg];exact (below_size (by repeat (first | (with_reducible first | exact HB.out | apply below_alloc | apply pw_below_drewN | apply below_drew1) | exact HB.out))) : w.heap.size ≤ gb192));clear HB;have HB := n0_;have BK192 := n1_;have GW192 := n2_;have GE192 := n3_;clear n0_ n1_ n2_ n3_;clear hb hbox hg;have hcz6_0 : w5.cell? ⟨gb192,0,none⟩ = some (.bool a0_0) := (blk_cell BK192.out 0).trans rfl;have hcz6_1 : w5.cell? ⟨gb192,1,none⟩ = some (.string a0_1) := (blk_cell BK192.out 1).trans rfl;have hcz6_2 : w5.cell? ⟨gb192,2,none⟩ = some (.int .i64 a0_2) := (blk_cell BK192.out 2).trans rfl;have hfz6_0 := blk_frozen BK192.out 0;have hfz6_1 := blk_frozen BK192.out 1;have hfz6_2 := blk_frozen BK192.out 2) | ((with_reducible refine gate_callee (f := 7) rfl ?_);refine goesL_ (some 7) rfl rfl Tryz.func7 (by kernel_rfl) rfl #[.agg #[.bool a0_0,.string a0_1,.int .i64 a0_2]] rfl (by (try simp only [List.map_toArray,List.map_cons,List.map_nil]);first | done | rfl | (simp only [List.length_drop,List.length_take];rfl)) ?_;(with_reducible refine (decimal_Right.calls a0_0 a0_1 a0_2 true _ A2.out).mono ?_);rintro e w7 ⟨rfl,hb⟩;refine ⟨_,rfl,?_⟩;have n0_ := Aside0.mk (blk_below (g := gb192) (o := .cells #[.bool a0_0,.string a0_1,.int .i64 a0_2] 23 (0,0)) (by (with_reducible repeat (first | refine blk_drewN ?_ _ | refine blk_drew ?_ | refine blk_alloc ?_ _));exact BK192.out) hb);have n1_ := Aside0.mk (below_step (by repeat (first | (with_reducible first | exact HB.out | apply below_alloc | apply pw_below_drewN | apply below_drew1 | refine below_set ?_ GE192.out) | exact HB.out)) hb);clear BK192;clear HB;have BK192 := n0_;have HB := n1_;clear n0_ n1_;(try clear hb);(try clear hb2);(try clear hk);(try clear hi);have hcz8_0 : w7.cell? ⟨gb192,0,none⟩ = some (.bool a0_0) := (blk_cell BK192.out 0).trans rfl;have hcz8_1 : w7.cell? ⟨gb192,1,none⟩ = some (.string a0_1) := (blk_cell BK192.out 1).trans rfl;have hcz8_2 : w7.cell? ⟨gb192,2,none⟩ = some (.int .i64 a0_2) := (blk_cell BK192.out 2).trans rfl;have hfz8_0 := blk_frozen BK192.out 0;have hfz8_1 := blk_frozen BK192.out 1;have hfz8_2 := blk_frozen BK192.out 2))
  (try simp only [Act.put,List.setIfInBounds_toArray,List.set_cons_zero,List.set_cons_succ])
  go_cut [3] (fun v3 wc => ∃ (kq : Nat) (x3_3 : ByteArray),v3 = .string x3_3 ∧ Aside0 (decimal_Print.j0 kq x3_3 a0_0 a0_1 a0_2 = some r) ∧ Aside0 (kq ≤ k) ∧ Aside0 (wc.heap[gb192]? = some (.cells #[.bool a0_0,.string a0_1,.int .i64 a0_2] 23 (0,0))) ∧ Aside0 (Below w.heap.size w wc))
  case first =>
   have H := HC4.out
   clear HC4
   by_cases c9 : a0_0 = true
   ·subst c9
    have H1 : (decimal_Print.j0 k (⟨#[45]⟩ : ByteArray) true a0_1 a0_2) = some r := by rw [if_pos rfl] at H;exact H
    clear H
    have H := H1
    clear H1
    have H' := Aside0.mk H
    clear H
    go_wp2
    go_meet
    case rel => exact ⟨_,((⟨#[45]⟩ : ByteArray)),(by first | rfl | (simp;done) | (simp [*];done)),H',⟨by first | omega | exact Nat.le_refl _⟩,⟨by (with_reducible repeat (first | refine blk_drewN ?_ _ | refine blk_drew ?_ | refine blk_alloc ?_ _));exact BK192.out⟩,⟨by repeat (first | (with_reducible first | exact HB.out | apply below_alloc | apply pw_below_drewN | apply below_drew1 | refine below_set ?_ GE192.out) | exact HB.out)⟩⟩
   ·replace c9 := Bool.eq_false_iff.mpr c9
    subst c9
    have H1 : (decimal_Print.j0 k (⟨#[]⟩ : ByteArray) false a0_1 a0_2) = some r := by rw [if_neg (show ¬ (false = true) by decide)] at H;exact H
    clear H
    have H := H1
    clear H1
    have H' := Aside0.mk H
    clear H
    go_wp2
    go_meet
    case rel => exact ⟨_,((⟨#[]⟩ : ByteArray)),(by first | rfl | (simp;done) | (simp [*];done)),H',⟨by first | omega | exact Nat.le_refl _⟩,⟨by (with_reducible repeat (first | refine blk_drewN ?_ _ | refine blk_drew ?_ | refine blk_alloc ?_ _));exact BK192.out⟩,⟨by repeat (first | (with_reducible first | exact HB.out | apply below_alloc | apply pw_below_drewN | apply below_drew1 | refine below_set ?_ GE192.out) | exact HB.out)⟩⟩
  case rest =>
   clear HC4
   try clear c1
   try clear p2
   try clear c3
   try clear c7
   try clear c9
   try clear hcz6_0
   try clear hcz6_1
   try clear hcz6_2
   try clear hcz8_0
   try clear hcz8_1
   try clear hcz8_2
   try clear hfz6_0
   try clear hfz6_1
   try clear hfz6_2
   try clear hfz8_0
   try clear hfz8_1
   try clear hfz8_2
   obtain ⟨kq,x3_3,rfl,HA,HJ3,BK192,HB⟩ := hcut
   cases kq with
   | zero => exact absurd HA.out (by simp [decimal_Print.j0])
   | succ kj3 =>
    have H := HA.out
    clear HA
    simp only [decimal_Print.j0] at H
    replace H := Option.bind_eq_some_iff.mp H
    obtain ⟨t194,A100,H⟩ := H
    replace H : (if (a0_1.size : Int) = 0 then (if x3_3.size + 1 ≤ 9223372036854775807 then (some (x3_3 ++ (⟨#[48]⟩ : ByteArray))) else (none)) else (if t194 ≥ 1 then (if t194 ≤ 21 then (decimal_Print.j1 kj3 x3_3 t194 (a0_1.size : Int) (decide (t194 ≥ (a0_1.size : Int))) a0_0 a0_1 a0_2) else (decimal_Print.j1 kj3 x3_3 t194 (a0_1.size : Int) false a0_0 a0_1 a0_2)) else (decimal_Print.j1 kj3 x3_3 t194 (a0_1.size : Int) false a0_0 a0_1 a0_2))) = some r := H
    have A10 := Aside0.mk A100
    clear A100
    have HC11 := Aside0.mk H
    clear H
    try go_wp2
    have n0_ := Aside0.mk (blk_drew BK192.out)
    have n1_ := Aside0.mk (below_drew1 HB.out)
    clear BK192
    clear HB
    have BK192 := n0_
    have HB := n1_
    clear n0_ n1_
    refine start_ (n := 7) (S := fun w' => w'.cell? ⟨gb192,0,none⟩ = some (.bool a0_0) ∧ w'.cell? ⟨gb192,1,none⟩ = some (.string a0_1) ∧ w'.cell? ⟨gb192,2,none⟩ = some (.int .i64 a0_2)) (ds := []) #[false,false,false,false,false,false,false] (by kernel_rfl) rfl rfl ⟨(blk_cell BK192.out 0).trans rfl,(blk_cell BK192.out 1).trans rfl,(blk_cell BK192.out 2).trans rfl⟩ (fun hHeld => ?_)
    generalize wc.drew = w12 at BK192 HB hHeld ⊢
    refine pure_ (i := 2) (N := some 13) (v := ?_) (a' := ?_) #[false,false,true,false,false,false,false] rfl rfl (by kernel_rfl) (fun _ _ _ h => h) (Or.inl ⟨by rfl,?_⟩) ?_ ?_
    rotate_left
    ·intro w'
     go_simp
     with_reducible rfl
    rotate_left
    ·simp only [Act.put,List.setIfInBounds_toArray,List.set_cons_zero,List.set_cons_succ,i64_w,i32_w]
     rfl
    refine take_ (i := 0) (N := some 11) (v := ?_) (a' := ?_) #[true,false,true,false,false,false,false] rfl rfl (by kernel_rfl) (fun _ _ _ h => h) (Or.inl ⟨by rfl,?_⟩) hHeld ?_ ?_
    rotate_left
    ·rintro w' ⟨s0,s1,s2⟩
     go_simp
     with_reducible rfl
    rotate_left
    ·simp only [Act.put,List.setIfInBounds_toArray,List.set_cons_zero,List.set_cons_succ,i64_w,i32_w]
     rfl
    refine take_ (i := 3) (N := some 14) (v := ?_) (a' := ?_) #[true,false,true,true,false,false,false] rfl rfl (by kernel_rfl) (fun _ _ _ h => h) (Or.inl ⟨by rfl,?_⟩) hHeld ?_ ?_
    rotate_left
    ·rintro w' ⟨s0,s1,s2⟩
     go_simp
     with_reducible rfl
    rotate_left
    ·simp only [Act.put,List.setIfInBounds_toArray,List.set_cons_zero,List.set_cons_succ,i64_w,i32_w]
     rfl
    refine pure_ (i := 4) (N := some 15) (v := ?_) (a' := ?_) #[true,false,true,true,true,false,false] rfl rfl (by kernel_rfl) (fun _ _ _ h => h) (Or.inl ⟨by rfl,?_⟩) ?_ ?_
    rotate_left
    ·intro w'
     go_simp
     with_reducible rfl
    rotate_left
    ·simp only [Act.put,List.setIfInBounds_toArray,List.set_cons_zero,List.set_cons_succ,i64_w,i32_w]
     rfl
    refine one_ (i := 1) (N := some 12) #[true,true,true,true,true,false,false] rfl rfl (by kernel_rfl) (by decide) (fun K hK => ?_)
    refine goes_ Tryz.func9 (by kernel_rfl) rfl #[.agg #[.bool a0_0,.string a0_1,.int .i64 a0_2]] (by rfl) rfl rfl (by (try simp only [List.map_toArray,List.map_cons,List.map_nil]);first | done | rfl | (simp only [List.length_drop,List.length_take];rfl)) ?_
    with_reducible refine (decimal_Point.calls a0_0 a0_1 a0_2 t194 _ A10.out).mono ?_
    rintro e w13 ⟨rfl,hb⟩
    refine ⟨_,rfl,?_⟩
    have n0_ := Aside0.mk (blk_below (g := gb192) (o := .cells #[.bool a0_0,.string a0_1,.int .i64 a0_2] 23 (0,0)) (by (with_reducible repeat (first | refine blk_drewN ?_ _ | refine blk_drew ?_ | refine blk_alloc ?_ _));exact BK192.out) hb)
    have n1_ := Aside0.mk (below_step (by repeat (first | (with_reducible first | exact HB.out | apply below_alloc | apply pw_below_drewN | apply below_drew1 | refine below_set ?_ GE192.out) | exact HB.out)) hb)
    clear BK192
    clear HB
    have BK192 := n0_
    have HB := n1_
    clear n0_ n1_
    (try clear hb)
    (try clear hb2)
    (try clear hk)
    (try clear hi)
    refine hK.out _ _ ⟨(blk_cell BK192.out 0).trans rfl,(blk_cell BK192.out 1).trans rfl,(blk_cell BK192.out 2).trans rfl⟩ (fun hHeld => ?_)
    clear hK K
    refine norm_ (a' := ?_) ?_ ?_
    rotate_left
    ·show Act.put _ (some 12) _ = _
     simp only [Act.put,List.setIfInBounds_toArray,List.set_cons_zero,List.set_cons_succ,i64_w,i32_w]
     rfl
    refine pure_ (i := 5) (N := some 4) (v := ?_) (a' := ?_) #[true,true,true,true,true,true,false] rfl rfl (by kernel_rfl) (fun _ _ _ h => h) (Or.inl ⟨by rfl,?_⟩) ?_ ?_
    rotate_left
    ·intro w'
     go_simp
     with_reducible rfl
    rotate_left
    ·simp only [Act.put,List.setIfInBounds_toArray,List.set_cons_zero,List.set_cons_succ,i64_w,i32_w]
     rfl
    refine pure_ (i := 6) (N := some 5) (v := ?_) (a' := ?_) #[true,true,true,true,true,true,true] rfl rfl (by kernel_rfl) (fun _ _ _ h => h) (Or.inl ⟨by rfl,?_⟩) ?_ ?_
    rotate_left
    ·intro w'
     go_simp
     with_reducible rfl
    rotate_left
    ·simp only [Act.put,List.setIfInBounds_toArray,List.set_cons_zero,List.set_cons_succ,i64_w,i32_w]
     rfl
    refine done_ (by kernel_rfl) ?_
    go_upto_block 0 with (fail)
    go_cut [] (fun wc => ∃ (kq : Nat),Aside0 (decimal_Print.j3 kq x3_3 t194 (a0_1.size : Int) a0_0 a0_1 a0_2 = some r) ∧ Aside0 (kq ≤ kj3) ∧ Aside0 (wc.heap[gb192]? = some (.cells #[.bool a0_0,.string a0_1,.int .i64 a0_2] 23 (0,0))) ∧ Aside0 (Below w.heap.size w wc))
    case first =>
     have H := HC11.out
     clear HC11
     by_cases c14 : (a0_1.size : Int) = 0
     ·rw [if_pos c14] at H
      have c14b0 : ((a0_1.size : Int) == 0) = true := beq_iff_eq.mpr c14
      have c14b1 : ((a0_1.size : Int) != 0) = false := bne_eq_false_iff_eq.mpr c14
      clear c14
      (first | rw [c14b0] | (simp only [i64_w,i32_w];rw [c14b0]) | skip)
      by_cases c15 : x3_3.size + 1 ≤ 9223372036854775807
      ·rw [if_pos c15] at H
       have c15b0 := eq_true c15
       have c15b1 : decide (x3_3.size + 1 ≤ 9223372036854775807) = true := decide_eq_true c15
       try have c15b2 : (9223372036854775807 < x3_3.size + 1) = False := eq_false (Nat.not_lt.2 c15)
       obtain rfl := Option.some.inj H
       go_wp2
       go_ret
       exact ⟨by first | rfl | (simp [errW_none,errW_some] <;> rfl) | (simp [*,errW_none,errW_some] <;> rfl),by repeat (first | (with_reducible first | exact HB.out | apply below_alloc | apply pw_below_drewN | apply below_drew1 | refine below_set ?_ GE192.out) | exact HB.out)⟩
      ·rw [if_neg c15] at H
       exact absurd H (by simp)
     ·rw [if_neg c14] at H
      have c14b0 : ((a0_1.size : Int) == 0) = false := beq_eq_false_iff_ne.mpr c14
      have c14b1 : ((a0_1.size : Int) != 0) = true := bne_iff_ne.mpr c14
      (first | rw [c14b0] | (simp only [i64_w,i32_w];rw [c14b0]) | skip)
      have HC16 := Aside0.mk H
      clear H
      go_upto_region 9 with (fail)
      go_cut [21] (fun v21 wc => ∃ (kq : Nat) (x21_15 : Bool),v21 = .bool x21_15 ∧ Aside0 (decimal_Print.j1 kq x3_3 t194 (a0_1.size : Int) x21_15 a0_0 a0_1 a0_2 = some r) ∧ Aside0 (kq ≤ kj3) ∧ Aside0 (wc.heap[gb192]? = some (.cells #[.bool a0_0,.string a0_1,.int .i64 a0_2] 23 (0,0))) ∧ Aside0 (Below w.heap.size w wc))
      case first =>
       have H := HC16.out
       clear HC16
       by_cases c17 : t194 ≥ 1
       ·rw [if_pos c17] at H
        have c17b0 : decide (1 ≤ t194) = true := decide_eq_true c17
        clear c17
        (first | rw [c17b0] | (simp only [i64_w,i32_w];rw [c17b0]) | skip)
        by_cases c18 : t194 ≤ 21
        ·rw [if_pos c18] at H
         have c18b0 : decide (t194 ≤ 21) = true := decide_eq_true c18
         clear c18
         have H' := Aside0.mk H
         clear H
         go_wp2
         go_meet
         case rel => exact ⟨_,(decide (t194 ≥ (a0_1.size : Int))),(by first | rfl | (simp;done) | (simp [*];done)),H',⟨by have := HJ3.out;first | omega | exact Nat.le_refl _⟩,⟨by (with_reducible repeat (first | refine blk_drewN ?_ _ | refine blk_drew ?_ | refine blk_alloc ?_ _));exact BK192.out⟩,⟨by repeat (first | (with_reducible first | exact HB.out | apply below_alloc | apply pw_below_drewN | apply below_drew1 | refine below_set ?_ GE192.out) | exact HB.out)⟩⟩
        ·rw [if_neg c18] at H
         have c18b0 : decide (t194 ≤ 21) = false := decide_eq_false c18
         clear c18
         have H' := Aside0.mk H
         clear H
         go_wp2
         go_meet
         case rel => exact ⟨_,(false),(by first | rfl | (simp;done) | (simp [*];done)),H',⟨by have := HJ3.out;first | omega | exact Nat.le_refl _⟩,⟨by (with_reducible repeat (first | refine blk_drewN ?_ _ | refine blk_drew ?_ | refine blk_alloc ?_ _));exact BK192.out⟩,⟨by repeat (first | (with_reducible first | exact HB.out | apply below_alloc | apply pw_below_drewN | apply below_drew1 | refine below_set ?_ GE192.out) | exact HB.out)⟩⟩
       ·rw [if_neg c17] at H
        have c17b0 : decide (1 ≤ t194) = false := decide_eq_false c17
        clear c17
        (first | rw [c17b0] | (simp only [i64_w,i32_w];rw [c17b0]) | skip)
        have H' := Aside0.mk H
        clear H
        go_wp2
        go_meet
        case rel => exact ⟨_,(false),(by first | rfl | (simp;done) | (simp [*];done)),H',⟨by have := HJ3.out;first | omega | exact Nat.le_refl _⟩,⟨by (with_reducible repeat (first | refine blk_drewN ?_ _ | refine blk_drew ?_ | refine blk_alloc ?_ _));exact BK192.out⟩,⟨by repeat (first | (with_reducible first | exact HB.out | apply below_alloc | apply pw_below_drewN | apply below_drew1 | refine below_set ?_ GE192.out) | exact HB.out)⟩⟩
      case rest =>
       clear HC16
       try clear c1
       try clear p2
       try clear c3
       try clear c7
       try clear c9
       try clear c14
       try clear c14b0
       try clear c14b1
       try clear c15
       try clear c15b0
       try clear c15b1
       try clear c15b2
       try clear c17
       try clear c17b0
       try clear c18
       try clear c18b0
       try clear hcz6_0
       try clear hcz6_1
       try clear hcz6_2
       try clear hcz8_0
       try clear hcz8_1
       try clear hcz8_2
       try clear hfz6_0
       try clear hfz6_1
       try clear hfz6_2
       try clear hfz8_0
       try clear hfz8_1
       try clear hfz8_2
       try clear p2
       obtain ⟨kq,x21_15,rfl,HA,HJ15,BK192,HB⟩ := hcut
       cases kq with
       | zero => exact absurd HA.out (by simp [decimal_Print.j1])
       | succ kj15 =>
        have H := HA.out
        clear HA
        simp only [decimal_Print.j1] at H
        by_cases c19 : x21_15 = true
        ·subst c19
         have H1 : (if x3_3.size + a0_1.size ≤ 9223372036854775807 then ((strings_Repeat.f (⟨#[48]⟩ : ByteArray) (wrap64 (t194 - (a0_1.size : Int)))).bind fun t195 => (if x3_3.size + a0_1.size + t195.size ≤ 9223372036854775807 then (some ((x3_3 ++ a0_1) ++ t195)) else (none))) else (none)) = some r := by rw [if_pos rfl] at H;exact H
         clear H
         have H := H1
         clear H1
         by_cases c20 : x3_3.size + a0_1.size ≤ 9223372036854775807
         ·rw [if_pos c20] at H
          have c20b0 := eq_true c20
          have c20b1 : decide (x3_3.size + a0_1.size ≤ 9223372036854775807) = true := decide_eq_true c20
          try have c20b2 : (9223372036854775807 < x3_3.size + a0_1.size) = False := eq_false (Nat.not_lt.2 c20)
          replace H := Option.bind_eq_some_iff.mp H
          obtain ⟨t195,A210,H⟩ := H
          replace H : (if x3_3.size + a0_1.size + t195.size ≤ 9223372036854775807 then (some ((x3_3 ++ a0_1) ++ t195)) else (none)) = some r := H
          have A21 := Aside0.mk A210
          clear A210
          by_cases c22 : x3_3.size + a0_1.size + t195.size ≤ 9223372036854775807
          ·rw [if_pos c22] at H
           have c22b0 := eq_true c22
           have c22b1 : decide (x3_3.size + a0_1.size + t195.size ≤ 9223372036854775807) = true := decide_eq_true c22
           try have c22b2 : (9223372036854775807 < x3_3.size + a0_1.size + t195.size) = False := eq_false (Nat.not_lt.2 c22)
           obtain rfl := Option.some.inj H
           try go_wp2
           have n0_ := Aside0.mk (blk_drew BK192.out)
           have n1_ := Aside0.mk (below_drew1 HB.out)
           clear BK192
           clear HB
           have BK192 := n0_
           have HB := n1_
           clear n0_ n1_
           refine start_ (n := 10) (S := fun w' => w'.cell? ⟨gb192,0,none⟩ = some (.bool a0_0) ∧ w'.cell? ⟨gb192,1,none⟩ = some (.string a0_1) ∧ w'.cell? ⟨gb192,2,none⟩ = some (.int .i64 a0_2)) (ds := []) #[false,false,false,false,false,false,false,false,false,false] (by kernel_rfl) rfl rfl ⟨(blk_cell BK192.out 0).trans rfl,(blk_cell BK192.out 1).trans rfl,(blk_cell BK192.out 2).trans rfl⟩ (fun hHeld => ?_);refine with_tabW decimal_Print.tab10 decimal_Print.bits10 (fun HT_ HW_ => ?_)
           generalize wc.drew = w23 at BK192 HB hHeld ⊢
           refine pure_ (i := 0) (N := some 33) (v := ?_) (a' := ?_) #[true,false,false,false,false,false,false,false,false,false] rfl rfl (any_of HT_.out (by kernel_rfl)) (fun _ _ _ h => h) (Or.inl ⟨by rfl,?_⟩) ?_ ?_
           rotate_left
           ·intro w'
            go_simp
            with_reducible rfl
           rotate_left
           ·simp only [Act.put,List.setIfInBounds_toArray,List.set_cons_zero,List.set_cons_succ,i64_w,i32_w]
            rfl
           refine pure_ (i := 1) (N := some 34) (v := ?_) (a' := ?_) #[true,true,false,false,false,false,false,false,false,false] rfl rfl (any_of HT_.out (by kernel_rfl)) (fun _ _ _ h => h) (Or.inl ⟨by rfl,?_⟩) ?_ ?_
           rotate_left
           ·intro w'
            go_simp
            with_reducible rfl
           rotate_left
           ·simp only [Act.put,List.setIfInBounds_toArray,List.set_cons_zero,List.set_cons_succ,i64_w,i32_w]
            rfl
           refine pure_ (i := 4) (N := some 37) (v := ?_) (a' := ?_) #[true,true,false,false,true,false,false,false,false,false] rfl rfl (any_of HT_.out (by kernel_rfl)) (fun _ _ _ h => h) (Or.inl ⟨by rfl,?_⟩) ?_ ?_
           rotate_left
           ·intro w'
            go_simp
            with_reducible rfl
           rotate_left
           ·simp only [Act.put,List.setIfInBounds_toArray,List.set_cons_zero,List.set_cons_succ,i64_w,i32_w]
            rfl
           refine pure_ (i := 5) (N := some 38) (v := ?_) (a' := ?_) #[true,true,false,false,true,true,false,false,false,false] rfl rfl (any_of HT_.out (by kernel_rfl)) (fun _ _ _ h => h) (Or.inl ⟨by rfl,?_⟩) ?_ ?_
           rotate_left
           ·intro w'
            go_simp
            with_reducible rfl
           rotate_left
           ·simp only [Act.put,List.setIfInBounds_toArray,List.set_cons_zero,List.set_cons_succ,i64_w,i32_w]
            rfl
           refine pure_ (i := 6) (N := some 39) (v := ?_) (a' := ?_) #[true,true,false,false,true,true,true,false,false,false] rfl rfl (any_of HT_.out (by kernel_rfl)) (fun _ _ _ h => h) (Or.inl ⟨by rfl,?_⟩) ?_ ?_
           rotate_left
           ·intro w'
            go_simp
            with_reducible rfl
           rotate_left
           ·simp only [Act.put,List.setIfInBounds_toArray,List.set_cons_zero,List.set_cons_succ,i64_w,i32_w]
            rfl
           refine take_ (i := 2) (N := some 35) (v := ?_) (a' := ?_) #[true,true,true,false,true,true,true,false,false,false] rfl rfl (take_ofW HT_.out HW_.out (by kernel_rfl)) (fun _ _ _ h => h) (Or.inl ⟨by rfl,?_⟩) hHeld ?_ ?_
           rotate_left
           ·rintro w' ⟨s0,s1,s2⟩
            go_simp
            with_reducible rfl
           rotate_left
           ·simp only [Act.put,List.setIfInBounds_toArray,List.set_cons_zero,List.set_cons_succ,i64_w,i32_w]
            rfl
           refine pure_ (i := 3) (N := some 36) (v := ?_) (a' := ?_) #[true,true,true,true,true,true,true,false,false,false] rfl rfl (any_of HT_.out (by kernel_rfl)) (fun _ _ _ h => h) (Or.inl ⟨by rfl,?_⟩) ?_ ?_
           rotate_left
           ·intro w'
            go_simp
            with_reducible rfl
           rotate_left
           ·simp only [Act.put,List.setIfInBounds_toArray,List.set_cons_zero,List.set_cons_succ,i64_w,i32_w]
            rfl
           refine one_ (i := 7) (N := some 40) #[true,true,true,true,true,true,true,true,false,false] rfl rfl (one_of HT_.out (by kernel_rfl)) (by decide) (fun K hK => ?_)
           refine goes_ Tryz.func31 (by kernel_rfl) rfl #[.string (⟨#[48]⟩ : ByteArray),.int .i64 (wrap64 (t194 - (a0_1.size : Int)))] (by rfl) rfl rfl (by (try simp only [List.map_toArray,List.map_cons,List.map_nil]);first | done | rfl | (simp only [List.length_drop,List.length_take];rfl)) ?_
           with_reducible refine (strings_Repeat.calls (⟨#[48]⟩ : ByteArray) (wrap64 (t194 - (a0_1.size : Int))) t195 _ A21.out).mono ?_
           rintro e w24 ⟨rfl,hb⟩
           refine ⟨_,rfl,?_⟩
           have n0_ := Aside0.mk (blk_below (g := gb192) (o := .cells #[.bool a0_0,.string a0_1,.int .i64 a0_2] 23 (0,0)) (by (with_reducible repeat (first | refine blk_drewN ?_ _ | refine blk_drew ?_ | refine blk_alloc ?_ _));exact BK192.out) hb)
           have n1_ := Aside0.mk (below_step (by repeat (first | (with_reducible first | exact HB.out | apply below_alloc | apply pw_below_drewN | apply below_drew1 | refine below_set ?_ GE192.out) | exact HB.out)) hb)
           clear BK192
           clear HB
           have BK192 := n0_
           have HB := n1_
           clear n0_ n1_
           (try clear hb)
           (try clear hb2)
           (try clear hk)
           (try clear hi)
           refine hK.out _ _ ⟨(blk_cell BK192.out 0).trans rfl,(blk_cell BK192.out 1).trans rfl,(blk_cell BK192.out 2).trans rfl⟩ (fun hHeld => ?_)
           clear hK K
           refine norm_ (a' := ?_) ?_ ?_
           rotate_left
           ·show Act.put _ (some 40) _ = _
            simp only [Act.put,List.setIfInBounds_toArray,List.set_cons_zero,List.set_cons_succ,i64_w,i32_w]
            rfl
           refine pure_ (i := 8) (N := some 41) (v := ?_) (a' := ?_) #[true,true,true,true,true,true,true,true,true,false] rfl rfl (any_of HT_.out (by kernel_rfl)) (fun _ _ _ h => h) (Or.inl ⟨by rfl,?_⟩) ?_ ?_
           rotate_left
           ·intro w'
            go_simp
            with_reducible rfl
           rotate_left
           ·simp only [Act.put,List.setIfInBounds_toArray,List.set_cons_zero,List.set_cons_succ,i64_w,i32_w]
            rfl
           refine pure_ (i := 9) (N := some 2) (v := ?_) (a' := ?_) #[true,true,true,true,true,true,true,true,true,true] rfl rfl (any_of HT_.out (by kernel_rfl)) (fun _ _ _ h => h) (Or.inl ⟨by rfl,?_⟩) ?_ ?_
           rotate_left
           ·intro w'
            go_simp
            with_reducible rfl
           rotate_left
           ·simp only [Act.put,List.setIfInBounds_toArray,List.set_cons_zero,List.set_cons_succ,i64_w,i32_w]
            rfl
           refine done_ (done_of HT_.out (by kernel_rfl)) ?_
           try go_wp2
           go_ret
           exact ⟨by first | rfl | (simp [errW_none,errW_some] <;> rfl) | (simp [*,errW_none,errW_some] <;> rfl),by repeat (first | (with_reducible first | exact HB.out | apply below_alloc | apply pw_below_drewN | apply below_drew1 | refine below_set ?_ GE192.out) | exact HB.out)⟩
          ·rw [if_neg c22] at H
           exact absurd H (by simp)
         ·rw [if_neg c20] at H
          exact absurd H (by simp)
        ·replace c19 := Bool.eq_false_iff.mpr c19
         subst c19
         have H1 : (if t194 ≥ 1 then (decimal_Print.j2 kj15 x3_3 t194 (a0_1.size : Int) (decide (t194 ≤ 21)) a0_0 a0_1 a0_2) else (decimal_Print.j2 kj15 x3_3 t194 (a0_1.size : Int) false a0_0 a0_1 a0_2)) = some r := by rw [if_neg (show ¬ (false = true) by decide)] at H;exact H
         clear H
         have H := H1
         clear H1
         have HC25 := Aside0.mk H
         clear H
         go_upto_region 11 with (fail)
         go_cut [42] (fun v42 wc => ∃ (kq : Nat) (x42_24 : Bool),v42 = .bool x42_24 ∧ Aside0 (decimal_Print.j2 kq x3_3 t194 (a0_1.size : Int) x42_24 a0_0 a0_1 a0_2 = some r) ∧ Aside0 (kq ≤ kj15) ∧ Aside0 (wc.heap[gb192]? = some (.cells #[.bool a0_0,.string a0_1,.int .i64 a0_2] 23 (0,0))) ∧ Aside0 (Below w.heap.size w wc))
         case first =>
          have H := HC25.out
          clear HC25
          by_cases c26 : t194 ≥ 1
          ·rw [if_pos c26] at H
           have c26b0 : decide (1 ≤ t194) = true := decide_eq_true c26
           clear c26
           (first | rw [c26b0] | (simp only [i64_w,i32_w];rw [c26b0]) | skip)
           have H' := Aside0.mk H
           clear H
           go_wp2
           go_meet
           case rel => exact ⟨_,(decide (t194 ≤ 21)),(by first | rfl | (simp;done) | (simp [*];done)),H',⟨by have := HJ3.out;have := HJ15.out;first | omega | exact Nat.le_refl _⟩,⟨by (with_reducible repeat (first | refine blk_drewN ?_ _ | refine blk_drew ?_ | refine blk_alloc ?_ _));exact BK192.out⟩,⟨by repeat (first | (with_reducible first | exact HB.out | apply below_alloc | apply pw_below_drewN | apply below_drew1 | refine below_set ?_ GE192.out) | exact HB.out)⟩⟩
          ·rw [if_neg c26] at H
           have c26b0 : decide (1 ≤ t194) = false := decide_eq_false c26
           clear c26
           (first | rw [c26b0] | (simp only [i64_w,i32_w];rw [c26b0]) | skip)
           have H' := Aside0.mk H
           clear H
           go_wp2
           go_meet
           case rel => exact ⟨_,(false),(by first | rfl | (simp;done) | (simp [*];done)),H',⟨by have := HJ3.out;have := HJ15.out;first | omega | exact Nat.le_refl _⟩,⟨by (with_reducible repeat (first | refine blk_drewN ?_ _ | refine blk_drew ?_ | refine blk_alloc ?_ _));exact BK192.out⟩,⟨by repeat (first | (with_reducible first | exact HB.out | apply below_alloc | apply pw_below_drewN | apply below_drew1 | refine below_set ?_ GE192.out) | exact HB.out)⟩⟩
         case rest =>
          clear HC25
          try clear c1
          try clear c2
          try clear p2
          try clear c3
          try clear p6
          try clear c7
          try clear c9
          try clear c14
          try clear c14b0
          try clear c14b1
          try clear c15
          try clear c15b0
          try clear c15b1
          try clear c15b2
          try clear c17
          try clear c17b0
          try clear c18
          try clear c18b0
          try clear c19
          try clear c20
          try clear c20b0
          try clear c20b1
          try clear c20b2
          try clear c22
          try clear c22b0
          try clear c22b1
          try clear c22b2
          try clear c26
          try clear c26b0
          try clear hcz6_0
          try clear hcz6_1
          try clear hcz6_2
          try clear hcz8_0
          try clear hcz8_1
          try clear hcz8_2
          try clear hfz6_0
          try clear hfz6_1
          try clear hfz6_2
          try clear hfz8_0
          try clear hfz8_1
          try clear hfz8_2
          try clear p2
          obtain ⟨kq,x42_24,rfl,HA,HJ24,BK192,HB⟩ := hcut
          cases kq with
          | zero => exact absurd HA.out (by simp [decimal_Print.j2])
          | succ kj24 =>
           have H := HA.out
           clear HA
           simp only [decimal_Print.j2] at H
           by_cases c27 : x42_24 = true
           ·subst c27
            have H1 : (if 0 ≤ t194 then (if t194 ≤ (a0_1.size : Int) then (if x3_3.size + (t194 : Int).toNat ≤ 9223372036854775807 then (if x3_3.size + (t194 : Int).toNat + 1 ≤ 9223372036854775807 then (if x3_3.size + (t194 : Int).toNat + 1 + (a0_1.size - (t194 : Int).toNat) ≤ 9223372036854775807 then (some (((x3_3 ++ (a0_1.extract 0 (t194 : Int).toNat)) ++ (⟨#[46]⟩ : ByteArray)) ++ (a0_1.extract (t194 : Int).toNat a0_1.size))) else (none)) else (none)) else (none)) else (none)) else (none)) = some r := by rw [if_pos rfl] at H;exact H
            clear H
            have H := H1
            clear H1
            by_cases c28 : 0 ≤ t194
            ·rw [if_pos c28] at H
             have c28b0 := eq_true c28
             have c28b1 : decide (0 ≤ t194) = true := decide_eq_true c28
             clear c28
             by_cases c29 : t194 ≤ (a0_1.size : Int)
             ·rw [if_pos c29] at H
              have c29b0 := eq_true c29
              have c29b1 : decide (t194 ≤ (a0_1.size : Int)) = true := decide_eq_true c29
              clear c29
              by_cases c30 : x3_3.size + (t194 : Int).toNat ≤ 9223372036854775807
              ·rw [if_pos c30] at H
               have c30b0 := eq_true c30
               have c30b1 : decide (x3_3.size + (t194 : Int).toNat ≤ 9223372036854775807) = true := decide_eq_true c30
               try have c30b2 : (9223372036854775807 < x3_3.size + (t194 : Int).toNat) = False := eq_false (Nat.not_lt.2 c30)
               by_cases c31 : x3_3.size + (t194 : Int).toNat + 1 ≤ 9223372036854775807
               ·rw [if_pos c31] at H
                have c31b0 := eq_true c31
                have c31b1 : decide (x3_3.size + (t194 : Int).toNat + 1 ≤ 9223372036854775807) = true := decide_eq_true c31
                try have c31b2 : (9223372036854775807 < x3_3.size + (t194 : Int).toNat + 1) = False := eq_false (Nat.not_lt.2 c31)
                have c32b0 := eq_true (of_decide_eq_true (by first | (with_reducible assumption) | assumption) : 0 ≤ t194)
                have c33b0 := eq_true (of_decide_eq_true (by first | (with_reducible assumption) | assumption) : t194 ≤ (a0_1.size : Int))
                by_cases c34 : x3_3.size + (t194 : Int).toNat + 1 + (a0_1.size - (t194 : Int).toNat) ≤ 9223372036854775807
                ·rw [if_pos c34] at H
                 have c34b0 := eq_true c34
                 have c34b1 : decide (x3_3.size + (t194 : Int).toNat + 1 + (a0_1.size - (t194 : Int).toNat) ≤ 9223372036854775807) = true := decide_eq_true c34
                 try have c34b2 : (9223372036854775807 < x3_3.size + (t194 : Int).toNat + 1 + (a0_1.size - (t194 : Int).toNat)) = False := eq_false (Nat.not_lt.2 c34)
                 obtain rfl := Option.some.inj H
                 try go_wp2
                 have n0_ := Aside0.mk (blk_drew BK192.out)
                 have n1_ := Aside0.mk (below_drew1 HB.out)
                 clear BK192
                 clear HB
                 have BK192 := n0_
                 have HB := n1_
                 clear n0_ n1_
                 refine start_ (n := 13) (S := fun w' => w'.cell? ⟨gb192,0,none⟩ = some (.bool a0_0) ∧ w'.cell? ⟨gb192,1,none⟩ = some (.string a0_1) ∧ w'.cell? ⟨gb192,2,none⟩ = some (.int .i64 a0_2)) (ds := []) #[false,false,false,false,false,false,false,false,false,false,false,false,false] (by kernel_rfl) rfl rfl ⟨(blk_cell BK192.out 0).trans rfl,(blk_cell BK192.out 1).trans rfl,(blk_cell BK192.out 2).trans rfl⟩ (fun hHeld => ?_);refine with_tabW decimal_Print.tab12 decimal_Print.bits12 (fun HT_ HW_ => ?_)
                 generalize wc.drew = w35 at BK192 HB hHeld ⊢
                 refine pure_ (i := 0) (N := some 49) (v := ?_) (a' := ?_) #[true,false,false,false,false,false,false,false,false,false,false,false,false] rfl rfl (any_of HT_.out (by kernel_rfl)) (fun _ _ _ h => h) (Or.inl ⟨by rfl,?_⟩) ?_ ?_
                 rotate_left
                 ·intro w'
                  go_simp
                  with_reducible rfl
                 rotate_left
                 ·simp only [Act.put,List.setIfInBounds_toArray,List.set_cons_zero,List.set_cons_succ,i64_w,i32_w]
                  rfl
                 refine pure_ (i := 1) (N := some 50) (v := ?_) (a' := ?_) #[true,true,false,false,false,false,false,false,false,false,false,false,false] rfl rfl (any_of HT_.out (by kernel_rfl)) (fun _ _ _ h => h) (Or.inl ⟨by rfl,?_⟩) ?_ ?_
                 rotate_left
                 ·intro w'
                  go_simp
                  with_reducible rfl
                 rotate_left
                 ·simp only [Act.put,List.setIfInBounds_toArray,List.set_cons_zero,List.set_cons_succ,i64_w,i32_w]
                  rfl
                 refine pure_ (i := 3) (N := some 52) (v := ?_) (a' := ?_) #[true,true,false,true,false,false,false,false,false,false,false,false,false] rfl rfl (any_of HT_.out (by kernel_rfl)) (fun _ _ _ h => h) (Or.inl ⟨by rfl,?_⟩) ?_ ?_
                 rotate_left
                 ·intro w'
                  go_simp
                  with_reducible rfl
                 rotate_left
                 ·simp only [Act.put,List.setIfInBounds_toArray,List.set_cons_zero,List.set_cons_succ,i64_w,i32_w]
                  rfl
                 refine pure_ (i := 7) (N := some 56) (v := ?_) (a' := ?_) #[true,true,false,true,false,false,false,true,false,false,false,false,false] rfl rfl (any_of HT_.out (by kernel_rfl)) (fun _ _ _ h => h) (Or.inl ⟨by rfl,?_⟩) ?_ ?_
                 rotate_left
                 ·intro w'
                  go_simp
                  with_reducible rfl
                 rotate_left
                 ·simp only [Act.put,List.setIfInBounds_toArray,List.set_cons_zero,List.set_cons_succ,i64_w,i32_w]
                  rfl
                 refine pure_ (i := 9) (N := some 58) (v := ?_) (a' := ?_) #[true,true,false,true,false,false,false,true,false,true,false,false,false] rfl rfl (any_of HT_.out (by kernel_rfl)) (fun _ _ _ h => h) (Or.inl ⟨by rfl,?_⟩) ?_ ?_
                 rotate_left
                 ·intro w'
                  go_simp
                  with_reducible rfl
                 rotate_left
                 ·simp only [Act.put,List.setIfInBounds_toArray,List.set_cons_zero,List.set_cons_succ,i64_w,i32_w]
                  rfl
                 refine take_ (i := 2) (N := some 51) (v := ?_) (a' := ?_) #[true,true,true,true,false,false,false,true,false,true,false,false,false] rfl rfl (take_ofW HT_.out HW_.out (by kernel_rfl)) (fun _ _ _ h => h) (Or.inl ⟨by rfl,?_⟩) hHeld ?_ ?_
                 rotate_left
                 ·rintro w' ⟨s0,s1,s2⟩
                  go_simp
                  with_reducible rfl
                 rotate_left
                 ·simp only [Act.put,List.setIfInBounds_toArray,List.set_cons_zero,List.set_cons_succ,i64_w,i32_w]
                  rfl
                 refine pure_ (i := 4) (N := some 53) (v := ?_) (a' := ?_) #[true,true,true,true,true,false,false,true,false,true,false,false,false] rfl rfl (any_of HT_.out (by kernel_rfl)) (fun _ _ _ h => h) (Or.inl ⟨by rfl,?_⟩) ?_ ?_
                 rotate_left
                 ·intro w'
                  go_simp
                  with_reducible rfl
                 rotate_left
                 ·simp only [Act.put,List.setIfInBounds_toArray,List.set_cons_zero,List.set_cons_succ,i64_w,i32_w]
                  rfl
                 refine pure_ (i := 5) (N := some 54) (v := ?_) (a' := ?_) #[true,true,true,true,true,true,false,true,false,true,false,false,false] rfl rfl (any_of HT_.out (by kernel_rfl)) (fun _ _ _ h => h) (Or.inl ⟨by rfl,?_⟩) ?_ ?_
                 rotate_left
                 ·intro w'
                  go_simp
                  with_reducible rfl
                 rotate_left
                 ·simp only [Act.put,List.setIfInBounds_toArray,List.set_cons_zero,List.set_cons_succ,i64_w,i32_w]
                  rfl
                 refine pure_ (i := 6) (N := some 55) (v := ?_) (a' := ?_) #[true,true,true,true,true,true,true,true,false,true,false,false,false] rfl rfl (any_of HT_.out (by kernel_rfl)) (fun _ _ _ h => h) (Or.inl ⟨by rfl,?_⟩) ?_ ?_
                 rotate_left
                 ·intro w'
                  go_simp
                  with_reducible rfl
                 rotate_left
                 ·simp only [Act.put,List.setIfInBounds_toArray,List.set_cons_zero,List.set_cons_succ,i64_w,i32_w]
                  rfl
                 refine take_ (i := 8) (N := some 57) (v := ?_) (a' := ?_) #[true,true,true,true,true,true,true,true,true,true,false,false,false] rfl rfl (take_ofW HT_.out HW_.out (by kernel_rfl)) (fun _ _ _ h => h) (Or.inl ⟨by rfl,?_⟩) hHeld ?_ ?_
                 rotate_left
                 ·rintro w' ⟨s0,s1,s2⟩
                  go_simp
                  with_reducible rfl
                 rotate_left
                 ·simp only [Act.put,List.setIfInBounds_toArray,List.set_cons_zero,List.set_cons_succ,i64_w,i32_w]
                  rfl
                 refine pure_ (i := 10) (N := some 59) (v := ?_) (a' := ?_) #[true,true,true,true,true,true,true,true,true,true,true,false,false] rfl rfl (any_of HT_.out (by kernel_rfl)) (fun _ _ _ h => h) (Or.inl ⟨by rfl,?_⟩) ?_ ?_
                 rotate_left
                 ·intro w'
                  go_simp
                  with_reducible rfl
                 rotate_left
                 ·simp only [Act.put,List.setIfInBounds_toArray,List.set_cons_zero,List.set_cons_succ,i64_w,i32_w]
                  rfl
                 refine pure_ (i := 11) (N := some 60) (v := ?_) (a' := ?_) #[true,true,true,true,true,true,true,true,true,true,true,true,false] rfl rfl (any_of HT_.out (by kernel_rfl)) (fun _ _ _ h => h) (Or.inl ⟨by rfl,?_⟩) ?_ ?_
                 rotate_left
                 ·intro w'
                  go_simp
                  with_reducible rfl
                 rotate_left
                 ·simp only [Act.put,List.setIfInBounds_toArray,List.set_cons_zero,List.set_cons_succ,i64_w,i32_w]
                  rfl
                 refine pure_ (i := 12) (N := some 2) (v := ?_) (a' := ?_) #[true,true,true,true,true,true,true,true,true,true,true,true,true] rfl rfl (any_of HT_.out (by kernel_rfl)) (fun _ _ _ h => h) (Or.inl ⟨by rfl,?_⟩) ?_ ?_
                 rotate_left
                 ·intro w'
                  go_simp
                  with_reducible rfl
                 rotate_left
                 ·simp only [Act.put,List.setIfInBounds_toArray,List.set_cons_zero,List.set_cons_succ,i64_w,i32_w]
                  rfl
                 refine done_ (done_of HT_.out (by kernel_rfl)) ?_
                 try go_wp2
                 go_ret
                 exact ⟨by first | rfl | (simp [errW_none,errW_some] <;> rfl) | (simp [*,errW_none,errW_some] <;> rfl),by repeat (first | (with_reducible first | exact HB.out | apply below_alloc | apply pw_below_drewN | apply below_drew1 | refine below_set ?_ GE192.out) | exact HB.out)⟩
                ·rw [if_neg c34] at H
                 exact absurd H (by simp)
               ·rw [if_neg c31] at H
                exact absurd H (by simp)
              ·rw [if_neg c30] at H
               exact absurd H (by simp)
             ·rw [if_neg c29] at H
              exact absurd H (by simp)
            ·rw [if_neg c28] at H
             exact absurd H (by simp)
           ·replace c27 := Bool.eq_false_iff.mpr c27
            subst c27
            have H1 : (if t194 ≥ (-5) then (if t194 ≤ 0 then (if x3_3.size + 2 ≤ 9223372036854775807 then ((strings_Repeat.f (⟨#[48]⟩ : ByteArray) (wrap64 (-t194))).bind fun t196 => (if x3_3.size + 2 + t196.size ≤ 9223372036854775807 then (if x3_3.size + 2 + t196.size + a0_1.size ≤ 9223372036854775807 then (some (((x3_3 ++ (⟨#[48,46]⟩ : ByteArray)) ++ t196) ++ a0_1)) else (none)) else (none))) else (none)) else (decimal_Print.j3 kj24 x3_3 t194 (a0_1.size : Int) a0_0 a0_1 a0_2)) else (decimal_Print.j3 kj24 x3_3 t194 (a0_1.size : Int) a0_0 a0_1 a0_2)) = some r := by rw [if_neg (show ¬ (false = true) by decide)] at H;exact H
            clear H
            have H := H1
            clear H1
            by_cases c36 : t194 ≥ (-5)
            ·rw [if_pos c36] at H
             have c36b0 : decide ((-5) ≤ t194) = true := decide_eq_true c36
             clear c36
             by_cases c37 : t194 ≤ 0
             ·rw [if_pos c37] at H
              have c37b0 : decide (t194 ≤ 0) = true := decide_eq_true c37
              clear c37
              by_cases c38 : x3_3.size + 2 ≤ 9223372036854775807
              ·rw [if_pos c38] at H
               have c38b0 := eq_true c38
               have c38b1 : decide (x3_3.size + 2 ≤ 9223372036854775807) = true := decide_eq_true c38
               try have c38b2 : (9223372036854775807 < x3_3.size + 2) = False := eq_false (Nat.not_lt.2 c38)
               replace H := Option.bind_eq_some_iff.mp H
               obtain ⟨t196,A390,H⟩ := H
               replace H : (if x3_3.size + 2 + t196.size ≤ 9223372036854775807 then (if x3_3.size + 2 + t196.size + a0_1.size ≤ 9223372036854775807 then (some (((x3_3 ++ (⟨#[48,46]⟩ : ByteArray)) ++ t196) ++ a0_1)) else (none)) else (none)) = some r := H
               have A39 := Aside0.mk A390
               clear A390
               by_cases c40 : x3_3.size + 2 + t196.size ≤ 9223372036854775807
               ·rw [if_pos c40] at H
                have c40b0 := eq_true c40
                have c40b1 : decide (x3_3.size + 2 + t196.size ≤ 9223372036854775807) = true := decide_eq_true c40
                try have c40b2 : (9223372036854775807 < x3_3.size + 2 + t196.size) = False := eq_false (Nat.not_lt.2 c40)
                by_cases c41 : x3_3.size + 2 + t196.size + a0_1.size ≤ 9223372036854775807
                ·rw [if_pos c41] at H
                 have c41b0 := eq_true c41
                 have c41b1 : decide (x3_3.size + 2 + t196.size + a0_1.size ≤ 9223372036854775807) = true := decide_eq_true c41
                 try have c41b2 : (9223372036854775807 < x3_3.size + 2 + t196.size + a0_1.size) = False := eq_false (Nat.not_lt.2 c41)
                 obtain rfl := Option.some.inj H
                 try go_wp2
                 have n0_ := Aside0.mk (blk_drew BK192.out)
                 have n1_ := Aside0.mk (below_drew1 HB.out)
                 clear BK192
                 clear HB
                 have BK192 := n0_
                 have HB := n1_
                 clear n0_ n1_
                 refine start_ (n := 10) (S := fun w' => w'.cell? ⟨gb192,0,none⟩ = some (.bool a0_0) ∧ w'.cell? ⟨gb192,1,none⟩ = some (.string a0_1) ∧ w'.cell? ⟨gb192,2,none⟩ = some (.int .i64 a0_2)) (ds := []) #[false,false,false,false,false,false,false,false,false,false] (by kernel_rfl) rfl rfl ⟨(blk_cell BK192.out 0).trans rfl,(blk_cell BK192.out 1).trans rfl,(blk_cell BK192.out 2).trans rfl⟩ (fun hHeld => ?_);refine with_tabW decimal_Print.tab14 decimal_Print.bits14 (fun HT_ HW_ => ?_)
                 generalize wc.drew = w42 at BK192 HB hHeld ⊢
                 refine pure_ (i := 0) (N := some 68) (v := ?_) (a' := ?_) #[true,false,false,false,false,false,false,false,false,false] rfl rfl (any_of HT_.out (by kernel_rfl)) (fun _ _ _ h => h) (Or.inl ⟨by rfl,?_⟩) ?_ ?_
                 rotate_left
                 ·intro w'
                  go_simp
                  with_reducible rfl
                 rotate_left
                 ·simp only [Act.put,List.setIfInBounds_toArray,List.set_cons_zero,List.set_cons_succ,i64_w,i32_w]
                  rfl
                 refine pure_ (i := 1) (N := some 69) (v := ?_) (a' := ?_) #[true,true,false,false,false,false,false,false,false,false] rfl rfl (any_of HT_.out (by kernel_rfl)) (fun _ _ _ h => h) (Or.inl ⟨by rfl,?_⟩) ?_ ?_
                 rotate_left
                 ·intro w'
                  go_simp
                  with_reducible rfl
                 rotate_left
                 ·simp only [Act.put,List.setIfInBounds_toArray,List.set_cons_zero,List.set_cons_succ,i64_w,i32_w]
                  rfl
                 refine pure_ (i := 2) (N := some 70) (v := ?_) (a' := ?_) #[true,true,true,false,false,false,false,false,false,false] rfl rfl (any_of HT_.out (by kernel_rfl)) (fun _ _ _ h => h) (Or.inl ⟨by rfl,?_⟩) ?_ ?_
                 rotate_left
                 ·intro w'
                  go_simp
                  with_reducible rfl
                 rotate_left
                 ·simp only [Act.put,List.setIfInBounds_toArray,List.set_cons_zero,List.set_cons_succ,i64_w,i32_w]
                  rfl
                 refine pure_ (i := 3) (N := some 71) (v := ?_) (a' := ?_) #[true,true,true,true,false,false,false,false,false,false] rfl rfl (any_of HT_.out (by kernel_rfl)) (fun _ _ _ h => h) (Or.inl ⟨by rfl,?_⟩) ?_ ?_
                 rotate_left
                 ·intro w'
                  go_simp
                  with_reducible rfl
                 rotate_left
                 ·simp only [Act.put,List.setIfInBounds_toArray,List.set_cons_zero,List.set_cons_succ,i64_w,i32_w]
                  rfl
                 refine pure_ (i := 6) (N := some 74) (v := ?_) (a' := ?_) #[true,true,true,true,false,false,true,false,false,false] rfl rfl (any_of HT_.out (by kernel_rfl)) (fun _ _ _ h => h) (Or.inl ⟨by rfl,?_⟩) ?_ ?_
                 rotate_left
                 ·intro w'
                  go_simp
                  with_reducible rfl
                 rotate_left
                 ·simp only [Act.put,List.setIfInBounds_toArray,List.set_cons_zero,List.set_cons_succ,i64_w,i32_w]
                  rfl
                 refine take_ (i := 7) (N := some 75) (v := ?_) (a' := ?_) #[true,true,true,true,false,false,true,true,false,false] rfl rfl (take_ofW HT_.out HW_.out (by kernel_rfl)) (fun _ _ _ h => h) (Or.inl ⟨by rfl,?_⟩) hHeld ?_ ?_
                 rotate_left
                 ·rintro w' ⟨s0,s1,s2⟩
                  go_simp
                  with_reducible rfl
                 rotate_left
                 ·simp only [Act.put,List.setIfInBounds_toArray,List.set_cons_zero,List.set_cons_succ,i64_w,i32_w]
                  rfl
                 refine one_ (i := 4) (N := some 72) #[true,true,true,true,true,false,true,true,false,false] rfl rfl (one_of HT_.out (by kernel_rfl)) (by decide) (fun K hK => ?_)
                 refine goes_ Tryz.func31 (by kernel_rfl) rfl #[.string (⟨#[48]⟩ : ByteArray),.int .i64 (wrap64 (-t194))] (by rfl) rfl rfl (by (try simp only [List.map_toArray,List.map_cons,List.map_nil]);first | done | rfl | (simp only [List.length_drop,List.length_take];rfl)) ?_
                 with_reducible refine (strings_Repeat.calls (⟨#[48]⟩ : ByteArray) (wrap64 (-t194)) t196 _ A39.out).mono ?_
                 rintro e w43 ⟨rfl,hb⟩
                 refine ⟨_,rfl,?_⟩
                 have n0_ := Aside0.mk (blk_below (g := gb192) (o := .cells #[.bool a0_0,.string a0_1,.int .i64 a0_2] 23 (0,0)) (by (with_reducible repeat (first | refine blk_drewN ?_ _ | refine blk_drew ?_ | refine blk_alloc ?_ _));exact BK192.out) hb)
                 have n1_ := Aside0.mk (below_step (by repeat (first | (with_reducible first | exact HB.out | apply below_alloc | apply pw_below_drewN | apply below_drew1 | refine below_set ?_ GE192.out) | exact HB.out)) hb)
                 clear BK192
                 clear HB
                 have BK192 := n0_
                 have HB := n1_
                 clear n0_ n1_
                 (try clear hb)
                 (try clear hb2)
                 (try clear hk)
                 (try clear hi)
                 refine hK.out _ _ ⟨(blk_cell BK192.out 0).trans rfl,(blk_cell BK192.out 1).trans rfl,(blk_cell BK192.out 2).trans rfl⟩ (fun hHeld => ?_)
                 clear hK K
                 refine norm_ (a' := ?_) ?_ ?_
                 rotate_left
                 ·show Act.put _ (some 72) _ = _
                  simp only [Act.put,List.setIfInBounds_toArray,List.set_cons_zero,List.set_cons_succ,i64_w,i32_w]
                  rfl
                 refine pure_ (i := 5) (N := some 73) (v := ?_) (a' := ?_) #[true,true,true,true,true,true,true,true,false,false] rfl rfl (any_of HT_.out (by kernel_rfl)) (fun _ _ _ h => h) (Or.inl ⟨by rfl,?_⟩) ?_ ?_
                 rotate_left
                 ·intro w'
                  go_simp
                  with_reducible rfl
                 rotate_left
                 ·simp only [Act.put,List.setIfInBounds_toArray,List.set_cons_zero,List.set_cons_succ,i64_w,i32_w]
                  rfl
                 refine pure_ (i := 8) (N := some 76) (v := ?_) (a' := ?_) #[true,true,true,true,true,true,true,true,true,false] rfl rfl (any_of HT_.out (by kernel_rfl)) (fun _ _ _ h => h) (Or.inl ⟨by rfl,?_⟩) ?_ ?_
                 rotate_left
                 ·intro w'
                  go_simp
                  with_reducible rfl
                 rotate_left
                 ·simp only [Act.put,List.setIfInBounds_toArray,List.set_cons_zero,List.set_cons_succ,i64_w,i32_w]
                  rfl
                 refine pure_ (i := 9) (N := some 2) (v := ?_) (a' := ?_) #[true,true,true,true,true,true,true,true,true,true] rfl rfl (any_of HT_.out (by kernel_rfl)) (fun _ _ _ h => h) (Or.inl ⟨by rfl,?_⟩) ?_ ?_
                 rotate_left
                 ·intro w'
                  go_simp
                  with_reducible rfl
                 rotate_left
                 ·simp only [Act.put,List.setIfInBounds_toArray,List.set_cons_zero,List.set_cons_succ,i64_w,i32_w]
                  rfl
                 refine done_ (done_of HT_.out (by kernel_rfl)) ?_
                 try go_wp2
                 go_ret
                 exact ⟨by first | rfl | (simp [errW_none,errW_some] <;> rfl) | (simp [*,errW_none,errW_some] <;> rfl),by repeat (first | (with_reducible first | exact HB.out | apply below_alloc | apply pw_below_drewN | apply below_drew1 | refine below_set ?_ GE192.out) | exact HB.out)⟩
                ·rw [if_neg c41] at H
                 exact absurd H (by simp)
               ·rw [if_neg c40] at H
                exact absurd H (by simp)
              ·rw [if_neg c38] at H
               exact absurd H (by simp)
             ·rw [if_neg c37] at H
              have c37b0 : decide (t194 ≤ 0) = false := decide_eq_false c37
              clear c37
              have H' := Aside0.mk H
              clear H
              go_wp2
              go_meet
              case rel => exact ⟨_,H',⟨by have := HJ3.out;have := HJ15.out;have := HJ24.out;first | omega | exact Nat.le_refl _⟩,⟨by (with_reducible repeat (first | refine blk_drewN ?_ _ | refine blk_drew ?_ | refine blk_alloc ?_ _));exact BK192.out⟩,⟨by repeat (first | (with_reducible first | exact HB.out | apply below_alloc | apply pw_below_drewN | apply below_drew1 | refine below_set ?_ GE192.out) | exact HB.out)⟩⟩
            ·rw [if_neg c36] at H
             have c36b0 : decide ((-5) ≤ t194) = false := decide_eq_false c36
             clear c36
             have H' := Aside0.mk H
             clear H
             go_wp2
             go_meet
             case rel => exact ⟨_,H',⟨by have := HJ3.out;have := HJ15.out;have := HJ24.out;first | omega | exact Nat.le_refl _⟩,⟨by (with_reducible repeat (first | refine blk_drewN ?_ _ | refine blk_drew ?_ | refine blk_alloc ?_ _));exact BK192.out⟩,⟨by repeat (first | (with_reducible first | exact HB.out | apply below_alloc | apply pw_below_drewN | apply below_drew1 | refine below_set ?_ GE192.out) | exact HB.out)⟩⟩
    case rest =>
     clear HC11
     try clear c1
     try clear c2
     try clear p2
     try clear c3
     try clear c4
     try clear p6
     try clear c7
     try clear c9
     try clear c14
     try clear c14b0
     try clear c14b1
     try clear c15
     try clear c15b0
     try clear c15b1
     try clear c15b2
     try clear c17
     try clear c17b0
     try clear c18
     try clear c18b0
     try clear c19
     try clear c20
     try clear c20b0
     try clear c20b1
     try clear c20b2
     try clear c22
     try clear c22b0
     try clear c22b1
     try clear c22b2
     try clear c26
     try clear c26b0
     try clear c27
     try clear c28
     try clear c28b0
     try clear c28b1
     try clear c29
     try clear c29b0
     try clear c29b1
     try clear c30
     try clear c30b0
     try clear c30b1
     try clear c30b2
     try clear c31
     try clear c31b0
     try clear c31b1
     try clear c31b2
     try clear c32
     try clear c32b0
     try clear c33
     try clear c33b0
     try clear c34
     try clear c34b0
     try clear c34b1
     try clear c34b2
     try clear c36
     try clear c36b0
     try clear c37
     try clear c37b0
     try clear c38
     try clear c38b0
     try clear c38b1
     try clear c38b2
     try clear c40
     try clear c40b0
     try clear c40b1
     try clear c40b2
     try clear c41
     try clear c41b0
     try clear c41b1
     try clear c41b2
     try clear hcz6_0
     try clear hcz6_1
     try clear hcz6_2
     try clear hcz8_0
     try clear hcz8_1
     try clear hcz8_2
     try clear hfz6_0
     try clear hfz6_1
     try clear hfz6_2
     try clear hfz8_0
     try clear hfz8_1
     try clear hfz8_2
     try clear p2
     try clear p6
     obtain ⟨kq,HA,HJ10,BK192,HB⟩ := hcut
     cases kq with
     | zero => exact absurd HA.out (by simp [decimal_Print.j3])
     | succ kj10 =>
      have H := HA.out
      clear HA
      simp only [decimal_Print.j3] at H
      by_cases c44 : 0 ≤ 1
      ·rw [if_pos c44] at H
       have c44b0 := eq_true c44
       have c44b1 : decide (0 ≤ 1) = true := decide_eq_true c44
       clear c44
       by_cases c45 : 1 ≤ (a0_1.size : Int)
       ·rw [if_pos c45] at H
        have c45b0 := eq_true c45
        have c45b1 : decide (1 ≤ (a0_1.size : Int)) = true := decide_eq_true c45
        clear c45
        by_cases c46 : x3_3.size + (a0_1.extract 0 1).size ≤ 9223372036854775807
        ·rw [if_pos c46] at H
         have c46b0 := eq_true c46
         have c46b1 : decide (x3_3.size + (a0_1.extract 0 1).size ≤ 9223372036854775807) = true := decide_eq_true c46
         try have c46b2 : (9223372036854775807 < x3_3.size + (a0_1.extract 0 1).size) = False := eq_false (Nat.not_lt.2 c46)
         (try (have c46z := c46;simp [ByteArray.size_extract,ByteArray.size_append,size_lit] at c46z))
         (try (have c46z2 := eq_false (Nat.not_lt.2 c46z)))
         have HC47 := Aside0.mk H
         clear H
         have hcz48_0 : wc.cell? ⟨gb192,0,none⟩ = some (.bool a0_0) := (blk_cell BK192.out 0).trans rfl
         have hcz48_1 : wc.cell? ⟨gb192,1,none⟩ = some (.string a0_1) := (blk_cell BK192.out 1).trans rfl
         have hcz48_2 : wc.cell? ⟨gb192,2,none⟩ = some (.int .i64 a0_2) := (blk_cell BK192.out 2).trans rfl
         have hfz48_0 := blk_frozen BK192.out 0
         have hfz48_1 := blk_frozen BK192.out 1
         have hfz48_2 := blk_frozen BK192.out 2
         go_upto_if 83 with (fail)
         go_cut [3] (fun v3 wc => ∃ (kq : Nat) (x3_46 : ByteArray),v3 = .string x3_46 ∧ Aside0 (decimal_Print.j4 kq x3_46 t194 = some r) ∧ Aside0 (kq ≤ kj10) ∧ Aside0 (wc.heap[gb192]? = some (.cells #[.bool a0_0,.string a0_1,.int .i64 a0_2] 23 (0,0))) ∧ Aside0 (Below w.heap.size w wc))
         case first =>
          have H := HC47.out
          clear HC47
          by_cases c49 : (a0_1.size : Int) > 1
          ·rw [if_pos c49] at H
           have c49b0 : decide (1 < (a0_1.size : Int)) = true := decide_eq_true c49
           have c49b1 : decide (1 < a0_1.size) = true := decide_eq_true (by omega)
           clear c49
           (first | rw [c49b0] | (simp only [i64_w,i32_w];rw [c49b0]) | skip)
           have c50b0 := eq_true (of_decide_eq_true (by first | (with_reducible assumption) | assumption) : 1 ≤ (a0_1.size : Int))
           by_cases c51 : 1 + (a0_1.extract 1 a0_1.size).size ≤ 9223372036854775807
           ·rw [if_pos c51] at H
            have c51b0 := eq_true c51
            have c51b1 : decide (1 + (a0_1.extract 1 a0_1.size).size ≤ 9223372036854775807) = true := decide_eq_true c51
            try have c51b2 : (9223372036854775807 < 1 + (a0_1.extract 1 a0_1.size).size) = False := eq_false (Nat.not_lt.2 c51)
            (try (have c51z := c51;simp [ByteArray.size_extract,ByteArray.size_append,size_lit] at c51z))
            (try (have c51z2 := eq_false (Nat.not_lt.2 c51z)))
            by_cases c52 : (x3_3 ++ (a0_1.extract 0 1)).size + ((⟨#[46]⟩ : ByteArray) ++ (a0_1.extract 1 a0_1.size)).size ≤ 9223372036854775807
            ·rw [if_pos c52] at H
             have c52b0 := eq_true c52
             have c52b1 : decide ((x3_3 ++ (a0_1.extract 0 1)).size + ((⟨#[46]⟩ : ByteArray) ++ (a0_1.extract 1 a0_1.size)).size ≤ 9223372036854775807) = true := decide_eq_true c52
             try have c52b2 : (9223372036854775807 < (x3_3 ++ (a0_1.extract 0 1)).size + ((⟨#[46]⟩ : ByteArray) ++ (a0_1.extract 1 a0_1.size)).size) = False := eq_false (Nat.not_lt.2 c52)
             (try (have c52z := c52;simp [ByteArray.size_extract,ByteArray.size_append,size_lit] at c52z))
             (try (have c52z2 := eq_false (Nat.not_lt.2 c52z)))
             have H' := Aside0.mk H
             clear H
             have hcz53_0 : wc.cell? ⟨gb192,0,none⟩ = some (.bool a0_0) := (blk_cell BK192.out 0).trans rfl
             have hcz53_1 : wc.cell? ⟨gb192,1,none⟩ = some (.string a0_1) := (blk_cell BK192.out 1).trans rfl
             have hcz53_2 : wc.cell? ⟨gb192,2,none⟩ = some (.int .i64 a0_2) := (blk_cell BK192.out 2).trans rfl
             have hfz53_0 := blk_frozen BK192.out 0
             have hfz53_1 := blk_frozen BK192.out 1
             have hfz53_2 := blk_frozen BK192.out 2
             go_wp2
             go_meet
             case rel => exact ⟨_,((x3_3 ++ (a0_1.extract 0 1)) ++ ((⟨#[46]⟩ : ByteArray) ++ (a0_1.extract 1 a0_1.size))),(by first | rfl | (simp;done) | (simp [*];done)),H',⟨by have := HJ3.out;have := HJ10.out;first | omega | exact Nat.le_refl _⟩,⟨by (with_reducible repeat (first | refine blk_drewN ?_ _ | refine blk_drew ?_ | refine blk_alloc ?_ _));exact BK192.out⟩,⟨by repeat (first | (with_reducible first | exact HB.out | apply below_alloc | apply pw_below_drewN | apply below_drew1 | refine below_set ?_ GE192.out) | exact HB.out)⟩⟩
            ·rw [if_neg c52] at H
             exact absurd H (by simp)
           ·rw [if_neg c51] at H
            exact absurd H (by simp)
          ·rw [if_neg c49] at H
           have c49b0 : decide (1 < (a0_1.size : Int)) = false := decide_eq_false c49
           have c49b1 : decide (1 < a0_1.size) = false := decide_eq_false (by omega)
           clear c49
           (first | rw [c49b0] | (simp only [i64_w,i32_w];rw [c49b0]) | skip)
           have H' := Aside0.mk H
           clear H
           go_wp2
           go_meet
           case rel => exact ⟨_,(x3_3 ++ (a0_1.extract 0 1)),(by first | rfl | (simp;done) | (simp [*];done)),H',⟨by have := HJ3.out;have := HJ10.out;first | omega | exact Nat.le_refl _⟩,⟨by (with_reducible repeat (first | refine blk_drewN ?_ _ | refine blk_drew ?_ | refine blk_alloc ?_ _));exact BK192.out⟩,⟨by repeat (first | (with_reducible first | exact HB.out | apply below_alloc | apply pw_below_drewN | apply below_drew1 | refine below_set ?_ GE192.out) | exact HB.out)⟩⟩
         case rest =>
          clear HC47
          try clear c1
          try clear c2
          try clear p2
          try clear c3
          try clear c4
          try clear c5
          try clear p6
          try clear c7
          try clear c9
          try clear c14
          try clear c14b0
          try clear c14b1
          try clear c15
          try clear c15b0
          try clear c15b1
          try clear c15b2
          try clear c17
          try clear c17b0
          try clear c18
          try clear c18b0
          try clear c19
          try clear c20
          try clear c20b0
          try clear c20b1
          try clear c20b2
          try clear c22
          try clear c22b0
          try clear c22b1
          try clear c22b2
          try clear c26
          try clear c26b0
          try clear c27
          try clear c28
          try clear c28b0
          try clear c28b1
          try clear c29
          try clear c29b0
          try clear c29b1
          try clear c30
          try clear c30b0
          try clear c30b1
          try clear c30b2
          try clear c31
          try clear c31b0
          try clear c31b1
          try clear c31b2
          try clear c32
          try clear c32b0
          try clear c33
          try clear c33b0
          try clear c34
          try clear c34b0
          try clear c34b1
          try clear c34b2
          try clear c36
          try clear c36b0
          try clear c37
          try clear c37b0
          try clear c38
          try clear c38b0
          try clear c38b1
          try clear c38b2
          try clear c40
          try clear c40b0
          try clear c40b1
          try clear c40b2
          try clear c41
          try clear c41b0
          try clear c41b1
          try clear c41b2
          try clear c44
          try clear c44b0
          try clear c44b1
          try clear c45
          try clear c45b0
          try clear c45b1
          try clear c46
          try clear c46b0
          try clear c46b1
          try clear c46b2
          try clear c49
          try clear c49b0
          try clear c49b1
          try clear c50
          try clear c50b0
          try clear c51
          try clear c51b0
          try clear c51b1
          try clear c51b2
          try clear c52
          try clear c52b0
          try clear c52b1
          try clear c52b2
          try clear hcz48_0
          try clear hcz48_1
          try clear hcz48_2
          try clear hcz53_0
          try clear hcz53_1
          try clear hcz53_2
          try clear hcz6_0
          try clear hcz6_1
          try clear hcz6_2
          try clear hcz8_0
          try clear hcz8_1
          try clear hcz8_2
          try clear hfz48_0
          try clear hfz48_1
          try clear hfz48_2
          try clear hfz53_0
          try clear hfz53_1
          try clear hfz53_2
          try clear hfz6_0
          try clear hfz6_1
          try clear hfz6_2
          try clear hfz8_0
          try clear hfz8_1
          try clear hfz8_2
          try clear p2
          try clear p6
          obtain ⟨kq,x3_46,rfl,HA,HJ46,BK192,HB⟩ := hcut
          cases kq with
          | zero => exact absurd HA.out (by simp [decimal_Print.j4])
          | succ kj46 =>
           have H := HA.out
           clear HA
           simp only [decimal_Print.j4] at H
           by_cases c54 : t194 < 1
           ·rw [if_pos c54] at H
            have c54b0 : decide (t194 < 1) = true := decide_eq_true c54
            clear c54
            by_cases c55 : x3_46.size + 2 ≤ 9223372036854775807
            ·rw [if_pos c55] at H
             have c55b0 := eq_true c55
             have c55b1 : decide (x3_46.size + 2 ≤ 9223372036854775807) = true := decide_eq_true c55
             try have c55b2 : (9223372036854775807 < x3_46.size + 2) = False := eq_false (Nat.not_lt.2 c55)
             replace H := Option.bind_eq_some_iff.mp H
             obtain ⟨t197,A560,H⟩ := H
             replace H : (if (x3_46 ++ (⟨#[101,45]⟩ : ByteArray)).size + t197.size ≤ 9223372036854775807 then (some ((x3_46 ++ (⟨#[101,45]⟩ : ByteArray)) ++ t197)) else (none)) = some r := H
             have A56 := Aside0.mk A560
             clear A560
             by_cases c57 : (x3_46 ++ (⟨#[101,45]⟩ : ByteArray)).size + t197.size ≤ 9223372036854775807
             ·rw [if_pos c57] at H
              have c57b0 := eq_true c57
              have c57b1 : decide ((x3_46 ++ (⟨#[101,45]⟩ : ByteArray)).size + t197.size ≤ 9223372036854775807) = true := decide_eq_true c57
              try have c57b2 : (9223372036854775807 < (x3_46 ++ (⟨#[101,45]⟩ : ByteArray)).size + t197.size) = False := eq_false (Nat.not_lt.2 c57)
              (try (have c57z := c57;simp [ByteArray.size_extract,ByteArray.size_append,size_lit] at c57z))
              (try (have c57z2 := eq_false (Nat.not_lt.2 c57z)))
              obtain rfl := Option.some.inj H
              go_wp2_with (first | ((with_reducible refine gate_callee (f := 32) rfl ?_);refine goesL_ (some 96) rfl rfl Tryz.func32 (by kernel_rfl) rfl #[.int .i64 (wrap64 (1 - t194))] rfl (by (try simp only [List.map_toArray,List.map_cons,List.map_nil]);first | done | rfl | (simp only [List.length_drop,List.length_take];rfl)) ?_;(with_reducible refine (strconv_Itoa.calls (wrap64 (1 - t194)) t197 _ ?side1 A56.out).mono ?_);(case side1 => exact Tabs.below HT.out (by repeat (first | (with_reducible first | exact HB.out | apply below_alloc | apply pw_below_drewN | apply below_drew1 | refine below_set ?_ GE192.out) | exact HB.out)));rintro e w58 ⟨rfl,hb⟩;refine ⟨_,rfl,?_⟩;have n0_ := Aside0.mk (blk_below (g := gb192) (o := .cells #[.bool a0_0,.string a0_1,.int .i64 a0_2] 23 (0,0)) (by (with_reducible repeat (first | refine blk_drewN ?_ _ | refine blk_drew ?_ | refine blk_alloc ?_ _));exact BK192.out) hb);have n1_ := Aside0.mk (below_step (by repeat (first | (with_reducible first | exact HB.out | apply below_alloc | apply pw_below_drewN | apply below_drew1 | refine below_set ?_ GE192.out) | exact HB.out)) hb);clear BK192;clear HB;have BK192 := n0_;have HB := n1_;clear n0_ n1_;(try clear hb);(try clear hb2);(try clear hk);(try clear hi)))
              go_ret
              exact ⟨by first | rfl | (simp [errW_none,errW_some] <;> rfl) | (simp [*,errW_none,errW_some] <;> rfl),by repeat (first | (with_reducible first | exact HB.out | apply below_alloc | apply pw_below_drewN | apply below_drew1 | refine below_set ?_ GE192.out) | exact HB.out)⟩
             ·rw [if_neg c57] at H
              exact absurd H (by simp)
            ·rw [if_neg c55] at H
             exact absurd H (by simp)
           ·rw [if_neg c54] at H
            have c54b0 : decide (t194 < 1) = false := decide_eq_false c54
            clear c54
            by_cases c59 : x3_46.size + 2 ≤ 9223372036854775807
            ·rw [if_pos c59] at H
             have c59b0 := eq_true c59
             have c59b1 : decide (x3_46.size + 2 ≤ 9223372036854775807) = true := decide_eq_true c59
             try have c59b2 : (9223372036854775807 < x3_46.size + 2) = False := eq_false (Nat.not_lt.2 c59)
             replace H := Option.bind_eq_some_iff.mp H
             obtain ⟨t198,A600,H⟩ := H
             replace H : (if (x3_46 ++ (⟨#[101,43]⟩ : ByteArray)).size + t198.size ≤ 9223372036854775807 then (some ((x3_46 ++ (⟨#[101,43]⟩ : ByteArray)) ++ t198)) else (none)) = some r := H
             have A60 := Aside0.mk A600
             clear A600
             by_cases c61 : (x3_46 ++ (⟨#[101,43]⟩ : ByteArray)).size + t198.size ≤ 9223372036854775807
             ·rw [if_pos c61] at H
              have c61b0 := eq_true c61
              have c61b1 : decide ((x3_46 ++ (⟨#[101,43]⟩ : ByteArray)).size + t198.size ≤ 9223372036854775807) = true := decide_eq_true c61
              try have c61b2 : (9223372036854775807 < (x3_46 ++ (⟨#[101,43]⟩ : ByteArray)).size + t198.size) = False := eq_false (Nat.not_lt.2 c61)
              (try (have c61z := c61;simp [ByteArray.size_extract,ByteArray.size_append,size_lit] at c61z))
              (try (have c61z2 := eq_false (Nat.not_lt.2 c61z)))
              obtain rfl := Option.some.inj H
              go_wp2_with (first | ((with_reducible refine gate_callee (f := 32) rfl ?_);refine goesL_ (some 102) rfl rfl Tryz.func32 (by kernel_rfl) rfl #[.int .i64 (wrap64 (t194 - 1))] rfl (by (try simp only [List.map_toArray,List.map_cons,List.map_nil]);first | done | rfl | (simp only [List.length_drop,List.length_take];rfl)) ?_;(with_reducible refine (strconv_Itoa.calls (wrap64 (t194 - 1)) t198 _ ?side1 A60.out).mono ?_);(case side1 => exact Tabs.below HT.out (by repeat (first | (with_reducible first | exact HB.out | apply below_alloc | apply pw_below_drewN | apply below_drew1 | refine below_set ?_ GE192.out) | exact HB.out)));rintro e w62 ⟨rfl,hb⟩;refine ⟨_,rfl,?_⟩;have n0_ := Aside0.mk (blk_below (g := gb192) (o := .cells #[.bool a0_0,.string a0_1,.int .i64 a0_2] 23 (0,0)) (by (with_reducible repeat (first | refine blk_drewN ?_ _ | refine blk_drew ?_ | refine blk_alloc ?_ _));exact BK192.out) hb);have n1_ := Aside0.mk (below_step (by repeat (first | (with_reducible first | exact HB.out | apply below_alloc | apply pw_below_drewN | apply below_drew1 | refine below_set ?_ GE192.out) | exact HB.out)) hb);clear BK192;clear HB;have BK192 := n0_;have HB := n1_;clear n0_ n1_;(try clear hb);(try clear hb2);(try clear hk);(try clear hi)))
              go_ret
              exact ⟨by first | rfl | (simp [errW_none,errW_some] <;> rfl) | (simp [*,errW_none,errW_some] <;> rfl),by repeat (first | (with_reducible first | exact HB.out | apply below_alloc | apply pw_below_drewN | apply below_drew1 | refine below_set ?_ GE192.out) | exact HB.out)⟩
             ·rw [if_neg c61] at H
              exact absurd H (by simp)
            ·rw [if_neg c59] at H
             exact absurd H (by simp)
        ·rw [if_neg c46] at H
         exact absurd H (by simp)
       ·rw [if_neg c45] at H
        exact absurd H (by simp)
      ·rw [if_neg c44] at H
       exact absurd H (by simp)
 ·replace c3 := Bool.eq_false_iff.mpr c3
  subst c3
  have H1 : (some (⟨#[]⟩ : ByteArray)) = some r := by rw [if_neg (show ¬ (false = true) by decide)] at H;exact H
  clear H
  have H := H1
  clear H1
  obtain rfl := Option.some.inj H
  go_enter Tryz.func17,Tryz.ntmps17
  go_wp2_with (first | ((with_reducible refine gate_dst (N := 1) rfl ?_);refine box_event ?hg (N := 1) ?hd (cs := #[.bool a0_0,.string a0_1,.int .i64 a0_2]) (t := 23) ?hr ?_;(case hd => rfl);(case hg => rfl);(case hr => first | (go_simp;done) | (go_simp;rfl));intro gb192 hg w63 hbox hb;have n0_ := Aside0.mk (below_step (by repeat (first | (with_reducible first | exact HB.out | apply below_alloc | apply pw_below_drewN | apply below_drew1) | exact HB.out)) hb);have n1_ := Aside0.mk (hbox);have n2_ := Aside0.mk ((by rw [hg];exact (below_size (by repeat (first | (with_reducible first | exact HB.out | apply below_alloc | apply pw_below_drewN | apply below_drew1) | exact HB.out))) : w.heap.size ≤ gb192));have n3_ := Aside0.mk ((by rw [hg];exact (below_size (by repeat (first | (with_reducible first | exact HB.out | apply below_alloc | apply pw_below_drewN | apply below_drew1) | exact HB.out))) : w.heap.size ≤ gb192));clear HB;have HB := n0_;have BK192 := n1_;have GW192 := n2_;have GE192 := n3_;clear n0_ n1_ n2_ n3_;clear hb hbox hg;have hcz64_0 : w63.cell? ⟨gb192,0,none⟩ = some (.bool a0_0) := (blk_cell BK192.out 0).trans rfl;have hcz64_1 : w63.cell? ⟨gb192,1,none⟩ = some (.string a0_1) := (blk_cell BK192.out 1).trans rfl;have hcz64_2 : w63.cell? ⟨gb192,2,none⟩ = some (.int .i64 a0_2) := (blk_cell BK192.out 2).trans rfl;have hfz64_0 := blk_frozen BK192.out 0;have hfz64_1 := blk_frozen BK192.out 1;have hfz64_2 := blk_frozen BK192.out 2) | ((with_reducible refine gate_callee (f := 7) rfl ?_);refine goesL_ (some 7) rfl rfl Tryz.func7 (by kernel_rfl) rfl #[.agg #[.bool a0_0,.string a0_1,.int .i64 a0_2]] rfl (by (try simp only [List.map_toArray,List.map_cons,List.map_nil]);first | done | rfl | (simp only [List.length_drop,List.length_take];rfl)) ?_;(with_reducible refine (decimal_Right.calls a0_0 a0_1 a0_2 false _ A2.out).mono ?_);rintro e w65 ⟨rfl,hb⟩;refine ⟨_,rfl,?_⟩;have n0_ := Aside0.mk (blk_below (g := gb192) (o := .cells #[.bool a0_0,.string a0_1,.int .i64 a0_2] 23 (0,0)) (by (with_reducible repeat (first | refine blk_drewN ?_ _ | refine blk_drew ?_ | refine blk_alloc ?_ _));exact BK192.out) hb);have n1_ := Aside0.mk (below_step (by repeat (first | (with_reducible first | exact HB.out | apply below_alloc | apply pw_below_drewN | apply below_drew1 | refine below_set ?_ GE192.out) | exact HB.out)) hb);clear BK192;clear HB;have BK192 := n0_;have HB := n1_;clear n0_ n1_;(try clear hb);(try clear hb2);(try clear hk);(try clear hi)))
  go_ret
  exact ⟨by first | rfl | (simp [errW_none,errW_some] <;> rfl) | (simp [*,errW_none,errW_some] <;> rfl),by repeat (first | (with_reducible first | exact HB.out | apply below_alloc | apply pw_below_drewN | apply below_drew1 | refine below_set ?_ GE192.out) | exact HB.out)⟩

end Go.Proofs.YtneeeaafhjaooaaGreatDoor.P
