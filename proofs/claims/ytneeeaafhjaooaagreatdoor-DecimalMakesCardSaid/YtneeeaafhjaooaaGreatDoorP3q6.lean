-- Printed by a program of this session (wip/tools) over the kit's print: not trusted, Lean checks it.
import Derived.Test.YtneeeaafhjaooaaGreatDoorP0q6
import Derived.Test.YtneeeaafhjaooaaGreatDoorProg
import Derived.Test.YtneeeaafhjaooaaGreatDoorElibq6
import Derived.Test.YtneeeaafhjaooaaGreatDoorShelfq6
import Derived.Test.YtneeeaafhjaooaaGreatDoorP1q6
import Derived.Test.YtneeeaafhjaooaaGreatDoorP2q6
import Derived.Test.YtneeeaafhjaooaaGreatDoorLibsq6
namespace Go.Proofs.YtneeeaafhjaooaaGreatDoor.P
set_option linter.all false
open Go.RowKit Go.Proofs.YtneeeaafhjaooaaGreatDoorW.PrintWords Go.Proofs.YtneeeaafhjaooaaGreatDoorW.PrintLast Go.Proofs.YtneeeaafhjaooaaGreatDoorW.PrintMore
attribute [local go_sem] max2_int min2_int max_two min_two max_three min_three max_four min_four   -- for this text's walks alone
attribute [local go_sem] cell_after
set_option linter.unusedVariables false
set_option linter.unusedSimpArgs false

/-! ### decimal_cut: function 27 -/
def decimal_cut.j0 : Nat → Int → Int → ByteArray → ByteArray → Bool → ByteArray → Int → Option (Bool × ByteArray × Int × Int)
 | 0,_,_,_,_,_,_,_ => none
 | k + 1,x2,x8,x9,x10,x139000,x139001,x139002 => (decimal_up.f x139000 x9 x10 x2).bind fun t141 => (if t141 = true then ((decimal_more.f x9).bind fun t142 => ((decimal_Make.f x139000 t142 x8).bind fun bt143 => (some (bt143.1,bt143.2.1,bt143.2.2.1,bt143.2.2.2)))) else ((decimal_Make.f x139000 x9 x8).bind fun bt147 => (some (bt147.1,bt147.2.1,bt147.2.2.1,bt147.2.2.2))))
def decimal_cut.f (k : Nat) (a0_0 : Bool) (a0_1 : ByteArray) (a0_2 : Int) (a1 : Int) (a2 : Int) : Option (Bool × ByteArray × Int × Int) := (strings_Repeat.f (⟨#[48]⟩ : ByteArray) (mx 0 (mn (wrap64 (-a1)) 1))).bind fun t140 => (if t140.size + a0_1.size ≤ 9223372036854775807 then (if a1 > 0 then (if 0 ≤ a1 then (if a1 ≤ (a0_1.size : Int) then (decimal_cut.j0 k a2 (wrap64 ((wrap64 (a0_2 + (a0_1.size : Int))) - a1)) (a0_1.extract 0 (a1 : Int).toNat) (a0_1.extract (a1 : Int).toNat a0_1.size) a0_0 a0_1 a0_2) else (none)) else (none)) else (decimal_cut.j0 k a2 (wrap64 ((wrap64 (a0_2 + (a0_1.size : Int))) - a1)) (⟨#[]⟩ : ByteArray) (t140 ++ a0_1) a0_0 a0_1 a0_2)) else (none))
def decimal_cut.T2 : Bool × List (List Nat × List Nat) := (true,[([],[]),([0],[0]),([1],[1]),([2],[2]),([3],[3]),([],[]),([5],[5]),([4,6],[4,6]),([4],[]),([7,8,0,1,2,3,4,5,6,7,8],[7])])
def decimal_cut.B2 : List Nat := [0,1,3,7,15,0,32,127,31,511]
theorem decimal_cut.tab2 : rtab .any (opsOf Tryz.f27 2) = decimal_cut.T2 := by kernel_rfl
theorem decimal_cut.bits2 : waitsOk decimal_cut.T2.2 decimal_cut.B2 = true := by kernel_rfl
def decimal_cut.T4 : Bool × List (List Nat × List Nat) := (true,[([],[]),([0],[0]),([],[]),([1,2],[1,2]),([],[]),([4],[4]),([],[]),([5,6],[5,6]),([3,0,1,2,3],[3]),([7,8,0,1,2,3,4,5,6,7,8],[7])])
def decimal_cut.B4 : List Nat := [0,1,0,7,0,16,0,112,15,511]
theorem decimal_cut.tab4 : rtab .any (opsOf Tryz.f27 4) = decimal_cut.T4 := by kernel_rfl
theorem decimal_cut.bits4 : waitsOk decimal_cut.T4.2 decimal_cut.B4 = true := by kernel_rfl
set_option maxHeartbeats 8000000 in
set_option maxRecDepth 100000 in
theorem decimal_cut.calls (k : Nat) (a0_0 : Bool) (a0_1 : ByteArray) (a0_2 : Int) (a1 : Int) (a2 : Int) (r1 : Bool) (r2 : ByteArray) (r3 : Int) (r4 : Int) (w : World) (h : decimal_cut.f k a0_0 a0_1 a0_2 a1 a2 = some (r1,r2,r3,r4)) :
  Calls Tryz.prog 27 #[.agg #[.bool a0_0,.string a0_1,.int .i64 a0_2],.int .i64 a1,.int .i64 a2] w fun e w' => e = .returned (.tuple #[.agg #[.bool r1,.string r2,.int .i64 r3],.int .i64 r4]) ∧ Below w.heap.size w w' := by
 have hu23 := Tryz.underlying23
 have HB := Aside0.mk (Below.refl w.heap.size w)
 have H : ((strings_Repeat.f (⟨#[48]⟩ : ByteArray) (mx 0 (mn (wrap64 (-a1)) 1))).bind fun t140 => (if t140.size + a0_1.size ≤ 9223372036854775807 then (if a1 > 0 then (if 0 ≤ a1 then (if a1 ≤ (a0_1.size : Int) then (decimal_cut.j0 k a2 (wrap64 ((wrap64 (a0_2 + (a0_1.size : Int))) - a1)) (a0_1.extract 0 (a1 : Int).toNat) (a0_1.extract (a1 : Int).toNat a0_1.size) a0_0 a0_1 a0_2) else (none)) else (none)) else (decimal_cut.j0 k a2 (wrap64 ((wrap64 (a0_2 + (a0_1.size : Int))) - a1)) (⟨#[]⟩ : ByteArray) (t140 ++ a0_1) a0_0 a0_1 a0_2)) else (none))) = some (r1,r2,r3,r4) := h
 clear h
 obtain ⟨ji4,hji4⟩ : ∃ j_ : Int,(mn (wrap64 (-a1)) 1) = j_ := ⟨_,rfl⟩
 replace H : ((strings_Repeat.f (⟨#[48]⟩ : ByteArray) (mx 0 (ji4))).bind fun t140 => (if t140.size + a0_1.size ≤ 9223372036854775807 then (if a1 > 0 then (if 0 ≤ a1 then (if a1 ≤ (a0_1.size : Int) then (decimal_cut.j0 k a2 (wrap64 ((wrap64 (a0_2 + (a0_1.size : Int))) - a1)) (a0_1.extract 0 (a1 : Int).toNat) (a0_1.extract (a1 : Int).toNat a0_1.size) a0_0 a0_1 a0_2) else (none)) else (none)) else (decimal_cut.j0 k a2 (wrap64 ((wrap64 (a0_2 + (a0_1.size : Int))) - a1)) (⟨#[]⟩ : ByteArray) (t140 ++ a0_1) a0_0 a0_1 a0_2)) else (none))) = some (r1,r2,r3,r4) := by first | (rw [hji4] at H;exact H) | (simp only [hji4] at H ⊢;exact H)
 (try (have hji4h : ji4 ≤ 1 := by (rw [← hji4];unfold mn;(repeat' split) <;> omega)))
 (try (have hji4g : ji4 ≤ 64 := by omega))
 have hji4_ : (if 1 < (wrap64 (-a1)) then 1 else (wrap64 (-a1))) = ji4 := hji4
 obtain ⟨ji5,hji5⟩ : ∃ j_ : Int,(mx 0 (ji4)) = j_ := ⟨_,rfl⟩
 replace H : ((strings_Repeat.f (⟨#[48]⟩ : ByteArray) (ji5)).bind fun t140 => (if t140.size + a0_1.size ≤ 9223372036854775807 then (if a1 > 0 then (if 0 ≤ a1 then (if a1 ≤ (a0_1.size : Int) then (decimal_cut.j0 k a2 (wrap64 ((wrap64 (a0_2 + (a0_1.size : Int))) - a1)) (a0_1.extract 0 (a1 : Int).toNat) (a0_1.extract (a1 : Int).toNat a0_1.size) a0_0 a0_1 a0_2) else (none)) else (none)) else (decimal_cut.j0 k a2 (wrap64 ((wrap64 (a0_2 + (a0_1.size : Int))) - a1)) (⟨#[]⟩ : ByteArray) (t140 ++ a0_1) a0_0 a0_1 a0_2)) else (none))) = some (r1,r2,r3,r4) := by first | (rw [hji5] at H;exact H) | (simp only [hji5] at H ⊢;exact H)
 have hji5_ : (if 0 < (ji4) then (ji4) else 0) = ji5 := hji5
 replace H := Option.bind_eq_some_iff.mp H
 obtain ⟨t140,A60,H⟩ := H
 replace H : (if t140.size + a0_1.size ≤ 9223372036854775807 then (if a1 > 0 then (if 0 ≤ a1 then (if a1 ≤ (a0_1.size : Int) then (decimal_cut.j0 k a2 (wrap64 ((wrap64 (a0_2 + (a0_1.size : Int))) - a1)) (a0_1.extract 0 (a1 : Int).toNat) (a0_1.extract (a1 : Int).toNat a0_1.size) a0_0 a0_1 a0_2) else (none)) else (none)) else (decimal_cut.j0 k a2 (wrap64 ((wrap64 (a0_2 + (a0_1.size : Int))) - a1)) (⟨#[]⟩ : ByteArray) (t140 ++ a0_1) a0_0 a0_1 a0_2)) else (none)) = some (r1,r2,r3,r4) := H
 have A6 := Aside0.mk A60
 clear A60
 by_cases c7 : t140.size + a0_1.size ≤ 9223372036854775807
 ·rw [if_pos c7] at H
  have c7b0 := eq_true c7
  have c7b1 : decide (t140.size + a0_1.size ≤ 9223372036854775807) = true := decide_eq_true c7
  try have c7b2 : (9223372036854775807 < t140.size + a0_1.size) = False := eq_false (Nat.not_lt.2 c7)
  have HC8 := Aside0.mk H
  clear H
  go_enter Tryz.func27,Tryz.ntmps27
  try go_wp2_with (first | ((with_reducible refine gate_dst (N := 3) rfl ?_);refine box_event ?hg (N := 3) ?hd (cs := #[.bool a0_0,.string a0_1,.int .i64 a0_2]) (t := 23) ?hr ?_;(case hd => rfl);(case hg => rfl);(case hr => first | (go_simp;done) | (go_simp;rfl));intro gb138 hg w9 hbox hb;have n0_ := Aside0.mk (below_step (by repeat (first | (with_reducible first | exact HB.out | apply below_alloc | apply pw_below_drewN | apply below_drew1) | exact HB.out)) hb);have n1_ := Aside0.mk (hbox);have n2_ := Aside0.mk ((by rw [hg];exact (below_size (by repeat (first | (with_reducible first | exact HB.out | apply below_alloc | apply pw_below_drewN | apply below_drew1) | exact HB.out))) : w.heap.size ≤ gb138));have n3_ := Aside0.mk ((by rw [hg];exact (below_size (by repeat (first | (with_reducible first | exact HB.out | apply below_alloc | apply pw_below_drewN | apply below_drew1) | exact HB.out))) : w.heap.size ≤ gb138));clear HB;have HB := n0_;have BK138 := n1_;have GW138 := n2_;have GE138 := n3_;clear n0_ n1_ n2_ n3_;clear hb hbox hg) | ((with_reducible refine gate_dst (N := 6) rfl ?_);refine box_event ?hg (N := 6) ?hd (cs := #[.bool false,.string (⟨#[]⟩ : ByteArray),.int .i64 0]) (t := 23) ?hr ?_;(case hd => rfl);(case hg => rfl);(case hr => first | (go_simp;done) | (go_simp;rfl));intro gb139 hg w10 hbox hb;have n0_ := Aside0.mk (blk_below (g := gb138) (o := .cells #[.bool a0_0,.string a0_1,.int .i64 a0_2] 23 (0,0)) (by (with_reducible repeat (first | refine blk_drewN ?_ _ | refine blk_drew ?_ | refine blk_alloc ?_ _));exact BK138.out) hb);have n1_ := Aside0.mk (below_step (by repeat (first | (with_reducible first | exact HB.out | apply below_alloc | apply pw_below_drewN | apply below_drew1 | refine below_set ?_ GE138.out) | exact HB.out)) hb);have n2_ := Aside0.mk (hbox);have n3_ := Aside0.mk ((by rw [hg];exact (below_size (by repeat (first | (with_reducible first | exact HB.out | apply below_alloc | apply pw_below_drewN | apply below_drew1 | refine below_set ?_ GE138.out) | exact HB.out))) : w.heap.size ≤ gb139));have n4_ := Aside0.mk ((by rw [hg];exact (below_size (by repeat (first | (with_reducible first | exact HB.out | apply below_alloc | apply pw_below_drewN | apply below_drew1 | refine below_set ?_ GE138.out) | exact HB.out))) : w.heap.size ≤ gb139));have n5_ := Aside0.mk ((by rw [hg];exact Nat.ne_of_lt (blk_lt (g := gb138) (o := .cells #[.bool a0_0,.string a0_1,.int .i64 a0_2] 23 (0,0)) (by (with_reducible repeat (first | refine blk_drewN ?_ _ | refine blk_drew ?_ | refine blk_alloc ?_ _));exact BK138.out)) : gb138 ≠ gb139));have n6_ := Aside0.mk ((by rw [hg];exact Nat.ne_of_gt (blk_lt (g := gb138) (o := .cells #[.bool a0_0,.string a0_1,.int .i64 a0_2] 23 (0,0)) (by (with_reducible repeat (first | refine blk_drewN ?_ _ | refine blk_drew ?_ | refine blk_alloc ?_ _));exact BK138.out)) : gb139 ≠ gb138));clear BK138;clear HB;have BK138 := n0_;have HB := n1_;have BK139 := n2_;have GW139 := n3_;have GE139 := n4_;have NB138_139 := n5_;have NB139_138 := n6_;clear n0_ n1_ n2_ n3_ n4_ n5_ n6_;clear hb hbox hg;have hnb11 := NB138_139.out;have hnc11 := NB139_138.out;have hcz12_0 : w10.cell? ⟨gb138,0,none⟩ = some (.bool a0_0) := (blk_cell BK138.out 0).trans rfl;have hcz12_1 : w10.cell? ⟨gb138,1,none⟩ = some (.string a0_1) := (blk_cell BK138.out 1).trans rfl;have hcz12_2 : w10.cell? ⟨gb138,2,none⟩ = some (.int .i64 a0_2) := (blk_cell BK138.out 2).trans rfl;have hfz12_0 := blk_frozen BK138.out 0;have hfz12_1 := blk_frozen BK138.out 1;have hfz12_2 := blk_frozen BK138.out 2))
  have n0_ := Aside0.mk (blk_drew BK138.out)
  have n1_ := Aside0.mk (blk_drew BK139.out)
  have n2_ := Aside0.mk (below_drew1 HB.out)
  clear BK138
  clear BK139
  clear HB
  have BK138 := n0_
  have BK139 := n1_
  have HB := n2_
  clear n0_ n1_ n2_
  refine start_ (n := 10) (S := fun w' => w'.cell? ⟨gb138,0,none⟩ = some (.bool a0_0) ∧ w'.cell? ⟨gb138,1,none⟩ = some (.string a0_1) ∧ w'.cell? ⟨gb138,2,none⟩ = some (.int .i64 a0_2)) (ds := []) #[false,false,false,false,false,false,false,false,false,false] (by kernel_rfl) rfl rfl ⟨(blk_cell BK138.out 0).trans rfl,(blk_cell BK138.out 1).trans rfl,(blk_cell BK138.out 2).trans rfl⟩ (fun hHeld => ?_);refine with_tabW decimal_cut.tab2 decimal_cut.bits2 (fun HT_ HW_ => ?_)
  generalize w10.drew = w13 at BK138 BK139 HB hHeld ⊢
  refine pure_ (i := 0) (N := some 19) (v := ?_) (a' := ?_) #[true,false,false,false,false,false,false,false,false,false] rfl rfl (any_of HT_.out (by kernel_rfl)) (fun _ _ _ h => h) (Or.inl ⟨by rfl,?_⟩) ?_ ?_
  rotate_left
  ·intro w'
   go_simp
   with_reducible rfl
  rotate_left
  ·simp only [Act.put,List.setIfInBounds_toArray,List.set_cons_zero,List.set_cons_succ,i64_w,i32_w]
   rfl
  refine pure_ (i := 1) (N := some 20) (v := ?_) (a' := ?_) #[true,true,false,false,false,false,false,false,false,false] rfl rfl (any_of HT_.out (by kernel_rfl)) (fun _ _ _ h => h) (Or.inl ⟨by rfl,?_⟩) ?_ ?_
  rotate_left
  ·intro w'
   go_simp
   with_reducible rfl
  rotate_left
  ·simp only [Act.put,List.setIfInBounds_toArray,List.set_cons_zero,List.set_cons_succ,i64_w,i32_w]
   rfl
  refine pure_ (i := 2) (N := some 21) (v := ?_) (a' := ?_) #[true,true,true,false,false,false,false,false,false,false] rfl rfl (any_of HT_.out (by kernel_rfl)) (fun _ _ _ h => h) (Or.inl ⟨by rfl,?_⟩) ?_ ?_
  rotate_left
  ·intro w'
   go_simp
   with_reducible rfl
  rotate_left
  ·simp only [Act.put,List.setIfInBounds_toArray,List.set_cons_zero,List.set_cons_succ,i64_w,i32_w]
   rfl
  refine pure_ (i := 3) (N := some 22) (v := ?_) (a' := ?_) #[true,true,true,true,false,false,false,false,false,false] rfl rfl (any_of HT_.out (by kernel_rfl)) (fun _ _ _ h => h) (Or.inl ⟨by rfl,?_⟩) ?_ ?_
  rotate_left
  ·intro w'
   go_simp
   with_reducible rfl
  rotate_left
  ·simp only [Act.put,List.setIfInBounds_toArray,List.set_cons_zero,List.set_cons_succ,i64_w,i32_w]
   rfl
  refine pure_ (i := 5) (N := some 24) (v := ?_) (a' := ?_) #[true,true,true,true,false,true,false,false,false,false] rfl rfl (any_of HT_.out (by kernel_rfl)) (fun _ _ _ h => h) (Or.inl ⟨by rfl,?_⟩) ?_ ?_
  rotate_left
  ·intro w'
   go_simp
   with_reducible rfl
  rotate_left
  ·simp only [Act.put,List.setIfInBounds_toArray,List.set_cons_zero,List.set_cons_succ,i64_w,i32_w]
   rfl
  refine take_ (i := 6) (N := some 25) (v := ?_) (a' := ?_) #[true,true,true,true,false,true,true,false,false,false] rfl rfl (take_ofW HT_.out HW_.out (by kernel_rfl)) (fun _ _ _ h => h) (Or.inl ⟨by rfl,?_⟩) hHeld ?_ ?_
  rotate_left
  ·rintro w' ⟨s0,s1,s2⟩
   go_simp
   with_reducible rfl
  rotate_left
  ·simp only [Act.put,List.setIfInBounds_toArray,List.set_cons_zero,List.set_cons_succ,i64_w,i32_w]
   rfl
  refine one_ (i := 4) (N := some 23) #[true,true,true,true,true,true,true,false,false,false] rfl rfl (one_of HT_.out (by kernel_rfl)) (by decide) (fun K hK => ?_)
  refine goes_ Tryz.func31 (by kernel_rfl) rfl #[.string (⟨#[48]⟩ : ByteArray),.int .i64 ji5] (by rfl) rfl rfl (by (try simp only [List.map_toArray,List.map_cons,List.map_nil]);first | done | (simp only [hji5];rfl) | rfl | (simp only [List.length_drop,List.length_take];rfl)) ?_
  with_reducible refine (strings_Repeat.calls (⟨#[48]⟩ : ByteArray) ji5 t140 _ A6.out).mono ?_
  rintro e w14 ⟨rfl,hb⟩
  refine ⟨_,rfl,?_⟩
  have n0_ := Aside0.mk (blk_below (g := gb138) (o := .cells #[.bool a0_0,.string a0_1,.int .i64 a0_2] 23 (0,0)) (by (with_reducible repeat (first | refine blk_drewN ?_ _ | refine blk_drew ?_ | refine blk_alloc ?_ _));exact BK138.out) hb)
  have n1_ := Aside0.mk (blk_below (g := gb139) (o := .cells #[.bool false,.string (⟨#[]⟩ : ByteArray),.int .i64 0] 23 (0,0)) (by (with_reducible repeat (first | refine blk_drewN ?_ _ | refine blk_drew ?_ | refine blk_alloc ?_ _));exact BK139.out) hb)
  have n2_ := Aside0.mk (below_step (by repeat (first | (with_reducible first | exact HB.out | apply below_alloc | apply pw_below_drewN | apply below_drew1 | refine below_set ?_ GE138.out | refine below_set ?_ GE139.out) | exact HB.out)) hb)
  clear BK138
  clear BK139
  clear HB
  have BK138 := n0_
  have BK139 := n1_
  have HB := n2_
  clear n0_ n1_ n2_
  (try clear hb)
  (try clear hb2)
  (try clear hk)
  (try clear hi)
  refine hK.out _ _ ⟨(blk_cell BK138.out 0).trans rfl,(blk_cell BK138.out 1).trans rfl,(blk_cell BK138.out 2).trans rfl⟩ (fun hHeld => ?_)
  clear hK K
  refine norm_ (a' := ?_) ?_ ?_
  rotate_left
  ·show Act.put _ (some 23) _ = _
   simp only [Act.put,List.setIfInBounds_toArray,List.set_cons_zero,List.set_cons_succ,i64_w,i32_w]
   rfl
  refine pure_ (i := 7) (N := some 26) (v := ?_) (a' := ?_) #[true,true,true,true,true,true,true,true,false,false] rfl rfl (any_of HT_.out (by kernel_rfl)) (fun _ _ _ h => h) (Or.inl ⟨by rfl,?_⟩) ?_ ?_
  rotate_left
  ·intro w'
   go_simp
   with_reducible rfl
  rotate_left
  ·simp only [Act.put,List.setIfInBounds_toArray,List.set_cons_zero,List.set_cons_succ,i64_w,i32_w]
   rfl
  refine pure_ (i := 8) (N := some 9) (v := ?_) (a' := ?_) #[true,true,true,true,true,true,true,true,true,false] rfl rfl (any_of HT_.out (by kernel_rfl)) (fun _ _ _ h => h) (Or.inl ⟨by rfl,?_⟩) ?_ ?_
  rotate_left
  ·intro w'
   go_simp
   with_reducible rfl
  rotate_left
  ·simp only [Act.put,List.setIfInBounds_toArray,List.set_cons_zero,List.set_cons_succ,i64_w,i32_w]
   rfl
  refine pure_ (i := 9) (N := some 10) (v := ?_) (a' := ?_) #[true,true,true,true,true,true,true,true,true,true] rfl rfl (any_of HT_.out (by kernel_rfl)) (fun _ _ _ h => h) (Or.inl ⟨by rfl,?_⟩) ?_ ?_
  rotate_left
  ·intro w'
   go_simp
   with_reducible rfl
  rotate_left
  ·simp only [Act.put,List.setIfInBounds_toArray,List.set_cons_zero,List.set_cons_succ,i64_w,i32_w]
   rfl
  refine done_ (done_of HT_.out (by kernel_rfl)) ?_
  go_upto_if 28 with (fail)
  go_cut [9,10] (fun v9 v10 wc => ∃ (kq : Nat) (x9_7 : ByteArray) (x10_7 : ByteArray),v9 = .string x9_7 ∧ v10 = .string x10_7 ∧ Aside0 (decimal_cut.j0 kq a2 (wrap64 ((wrap64 (a0_2 + (a0_1.size : Int))) - a1)) x9_7 x10_7 a0_0 a0_1 a0_2 = some (r1,r2,r3,r4)) ∧ Aside0 (kq ≤ k) ∧ Aside0 (wc.heap[gb138]? = some (.cells #[.bool a0_0,.string a0_1,.int .i64 a0_2] 23 (0,0))) ∧ Aside0 (wc.heap[gb139]? = some (.cells #[.bool false,.string (⟨#[]⟩ : ByteArray),.int .i64 0] 23 (0,0))) ∧ Aside0 (Below w.heap.size w wc))
  case first =>
   have H := HC8.out
   clear HC8
   by_cases c15 : a1 > 0
   ·rw [if_pos c15] at H
    have c15b0 : decide (0 < a1) = true := decide_eq_true c15
    clear c15
    (first | rw [c15b0] | (simp only [i64_w,i32_w];rw [c15b0]) | skip)
    by_cases c16 : 0 ≤ a1
    ·rw [if_pos c16] at H
     have c16b0 := eq_true c16
     have c16b1 : decide (0 ≤ a1) = true := decide_eq_true c16
     clear c16
     by_cases c17 : a1 ≤ (a0_1.size : Int)
     ·rw [if_pos c17] at H
      have c17b0 := eq_true c17
      have c17b1 : decide (a1 ≤ (a0_1.size : Int)) = true := decide_eq_true c17
      clear c17
      have c18b0 := eq_true (of_decide_eq_true (by first | (with_reducible assumption) | assumption) : 0 ≤ a1)
      have c19b0 := eq_true (of_decide_eq_true (by first | (with_reducible assumption) | assumption) : a1 ≤ (a0_1.size : Int))
      have H' := Aside0.mk H
      clear H
      try go_wp2
      have n0_ := Aside0.mk (blk_drew BK138.out)
      have n1_ := Aside0.mk (blk_drew BK139.out)
      have n2_ := Aside0.mk (below_drew1 HB.out)
      clear BK138
      clear BK139
      clear HB
      have BK138 := n0_
      have BK139 := n1_
      have HB := n2_
      clear n0_ n1_ n2_
      refine start_ (n := 10) (S := fun w' => w'.cell? ⟨gb138,0,none⟩ = some (.bool a0_0) ∧ w'.cell? ⟨gb138,1,none⟩ = some (.string a0_1) ∧ w'.cell? ⟨gb138,2,none⟩ = some (.int .i64 a0_2)) (ds := []) #[false,false,false,false,false,false,false,false,false,false] (by kernel_rfl) rfl rfl ⟨(blk_cell BK138.out 0).trans rfl,(blk_cell BK138.out 1).trans rfl,(blk_cell BK138.out 2).trans rfl⟩ (fun hHeld => ?_);refine with_tabW decimal_cut.tab4 decimal_cut.bits4 (fun HT_ HW_ => ?_)
      generalize w14.drew = w20 at BK138 BK139 HB hHeld ⊢
      refine pure_ (i := 0) (N := some 29) (v := ?_) (a' := ?_) #[true,false,false,false,false,false,false,false,false,false] rfl rfl (any_of HT_.out (by kernel_rfl)) (fun _ _ _ h => h) (Or.inl ⟨by rfl,?_⟩) ?_ ?_
      rotate_left
      ·intro w'
       go_simp
       with_reducible rfl
      rotate_left
      ·simp only [Act.put,List.setIfInBounds_toArray,List.set_cons_zero,List.set_cons_succ,i64_w,i32_w]
       rfl
      refine pure_ (i := 2) (N := some 31) (v := ?_) (a' := ?_) #[true,false,true,false,false,false,false,false,false,false] rfl rfl (any_of HT_.out (by kernel_rfl)) (fun _ _ _ h => h) (Or.inl ⟨by rfl,?_⟩) ?_ ?_
      rotate_left
      ·intro w'
       go_simp
       with_reducible rfl
      rotate_left
      ·simp only [Act.put,List.setIfInBounds_toArray,List.set_cons_zero,List.set_cons_succ,i64_w,i32_w]
       rfl
      refine pure_ (i := 4) (N := some 33) (v := ?_) (a' := ?_) #[true,false,true,false,true,false,false,false,false,false] rfl rfl (any_of HT_.out (by kernel_rfl)) (fun _ _ _ h => h) (Or.inl ⟨by rfl,?_⟩) ?_ ?_
      rotate_left
      ·intro w'
       go_simp
       with_reducible rfl
      rotate_left
      ·simp only [Act.put,List.setIfInBounds_toArray,List.set_cons_zero,List.set_cons_succ,i64_w,i32_w]
       rfl
      refine pure_ (i := 6) (N := some 35) (v := ?_) (a' := ?_) #[true,false,true,false,true,false,true,false,false,false] rfl rfl (any_of HT_.out (by kernel_rfl)) (fun _ _ _ h => h) (Or.inl ⟨by rfl,?_⟩) ?_ ?_
      rotate_left
      ·intro w'
       go_simp
       with_reducible rfl
      rotate_left
      ·simp only [Act.put,List.setIfInBounds_toArray,List.set_cons_zero,List.set_cons_succ,i64_w,i32_w]
       rfl
      refine take_ (i := 1) (N := some 30) (v := ?_) (a' := ?_) #[true,true,true,false,true,false,true,false,false,false] rfl rfl (take_ofW HT_.out HW_.out (by kernel_rfl)) (fun _ _ _ h => h) (Or.inl ⟨by rfl,?_⟩) hHeld ?_ ?_
      rotate_left
      ·rintro w' ⟨s0,s1,s2⟩
       go_simp
       with_reducible rfl
      rotate_left
      ·simp only [Act.put,List.setIfInBounds_toArray,List.set_cons_zero,List.set_cons_succ,i64_w,i32_w]
       rfl
      refine pure_ (i := 3) (N := some 32) (v := ?_) (a' := ?_) #[true,true,true,true,true,false,true,false,false,false] rfl rfl (any_of HT_.out (by kernel_rfl)) (fun _ _ _ h => h) (Or.inl ⟨by rfl,?_⟩) ?_ ?_
      rotate_left
      ·intro w'
       go_simp
       with_reducible rfl
      rotate_left
      ·simp only [Act.put,List.setIfInBounds_toArray,List.set_cons_zero,List.set_cons_succ,i64_w,i32_w]
       rfl
      refine pure_ (i := 8) (N := some 9) (v := ?_) (a' := ?_) #[true,true,true,true,true,false,true,false,true,false] rfl rfl (any_of HT_.out (by kernel_rfl)) (fun _ _ _ h => h) (Or.inl ⟨by rfl,?_⟩) ?_ ?_
      rotate_left
      ·intro w'
       go_simp
       with_reducible rfl
      rotate_left
      ·simp only [Act.put,List.setIfInBounds_toArray,List.set_cons_zero,List.set_cons_succ,i64_w,i32_w]
       rfl
      refine take_ (i := 5) (N := some 34) (v := ?_) (a' := ?_) #[true,true,true,true,true,true,true,false,true,false] rfl rfl (take_ofW HT_.out HW_.out (by kernel_rfl)) (fun _ _ _ h => h) (Or.inl ⟨by rfl,?_⟩) hHeld ?_ ?_
      rotate_left
      ·rintro w' ⟨s0,s1,s2⟩
       go_simp
       with_reducible rfl
      rotate_left
      ·simp only [Act.put,List.setIfInBounds_toArray,List.set_cons_zero,List.set_cons_succ,i64_w,i32_w]
       rfl
      refine pure_ (i := 7) (N := some 36) (v := ?_) (a' := ?_) #[true,true,true,true,true,true,true,true,true,false] rfl rfl (any_of HT_.out (by kernel_rfl)) (fun _ _ _ h => h) (Or.inl ⟨by rfl,?_⟩) ?_ ?_
      rotate_left
      ·intro w'
       go_simp
       with_reducible rfl
      rotate_left
      ·simp only [Act.put,List.setIfInBounds_toArray,List.set_cons_zero,List.set_cons_succ,i64_w,i32_w]
       rfl
      refine pure_ (i := 9) (N := some 10) (v := ?_) (a' := ?_) #[true,true,true,true,true,true,true,true,true,true] rfl rfl (any_of HT_.out (by kernel_rfl)) (fun _ _ _ h => h) (Or.inl ⟨by rfl,?_⟩) ?_ ?_
      rotate_left
      ·intro w'
       go_simp
       with_reducible rfl
      rotate_left
      ·simp only [Act.put,List.setIfInBounds_toArray,List.set_cons_zero,List.set_cons_succ,i64_w,i32_w]
       rfl
      refine done_ (done_of HT_.out (by kernel_rfl)) ?_
      try go_wp2
      go_meet
      case rel => exact ⟨_,(a0_1.extract 0 (a1 : Int).toNat),(a0_1.extract (a1 : Int).toNat a0_1.size),(by first | rfl | (simp;done) | (simp [*];done)),(by first | rfl | (simp;done) | (simp [*];done)),H',⟨by first | omega | exact Nat.le_refl _⟩,⟨by (with_reducible repeat (first | refine blk_drewN ?_ _ | refine blk_drew ?_ | refine blk_alloc ?_ _));exact BK138.out⟩,⟨by (with_reducible repeat (first | refine blk_drewN ?_ _ | refine blk_drew ?_ | refine blk_alloc ?_ _));exact BK139.out⟩,⟨by repeat (first | (with_reducible first | exact HB.out | apply below_alloc | apply pw_below_drewN | apply below_drew1 | refine below_set ?_ GE138.out | refine below_set ?_ GE139.out) | exact HB.out)⟩⟩
     ·rw [if_neg c17] at H
      exact absurd H (by simp)
    ·rw [if_neg c16] at H
     exact absurd H (by simp)
   ·rw [if_neg c15] at H
    have c15b0 : decide (0 < a1) = false := decide_eq_false c15
    clear c15
    (first | rw [c15b0] | (simp only [i64_w,i32_w];rw [c15b0]) | skip)
    have H' := Aside0.mk H
    clear H
    go_wp2
    go_meet
    case rel => exact ⟨_,((⟨#[]⟩ : ByteArray)),(t140 ++ a0_1),(by first | rfl | (simp;done) | (simp [*];done)),(by first | rfl | (simp;done) | (simp [*];done)),H',⟨by first | omega | exact Nat.le_refl _⟩,⟨by (with_reducible repeat (first | refine blk_drewN ?_ _ | refine blk_drew ?_ | refine blk_alloc ?_ _));exact BK138.out⟩,⟨by (with_reducible repeat (first | refine blk_drewN ?_ _ | refine blk_drew ?_ | refine blk_alloc ?_ _));exact BK139.out⟩,⟨by repeat (first | (with_reducible first | exact HB.out | apply below_alloc | apply pw_below_drewN | apply below_drew1 | refine below_set ?_ GE138.out | refine below_set ?_ GE139.out) | exact HB.out)⟩⟩
  case rest =>
   clear HC8
   try clear c1
   try clear c2
   try clear p2
   try clear c3
   try clear p6
   try clear c7
   try clear c7b0
   try clear c7b1
   try clear c7b2
   try clear c11
   try clear c15
   try clear c15b0
   try clear c16
   try clear c16b0
   try clear c16b1
   try clear c17
   try clear c17b0
   try clear c17b1
   try clear c18
   try clear c18b0
   try clear c19
   try clear c19b0
   try clear hcz12_0
   try clear hcz12_1
   try clear hcz12_2
   try clear hfz12_0
   try clear hfz12_1
   try clear hfz12_2
   obtain ⟨kq,x9_7,x10_7,rfl,rfl,HA,HJ7,BK138,BK139,HB⟩ := hcut
   cases kq with
   | zero => exact absurd HA.out (by simp [decimal_cut.j0])
   | succ kj7 =>
    have H := HA.out
    clear HA
    simp only [decimal_cut.j0] at H
    replace H := Option.bind_eq_some_iff.mp H
    obtain ⟨t141,A210,H⟩ := H
    replace H : (if t141 = true then ((decimal_more.f x9_7).bind fun t142 => ((decimal_Make.f a0_0 t142 (wrap64 ((wrap64 (a0_2 + (a0_1.size : Int))) - a1))).bind fun bt143 => (some (bt143.1,bt143.2.1,bt143.2.2.1,bt143.2.2.2)))) else ((decimal_Make.f a0_0 x9_7 (wrap64 ((wrap64 (a0_2 + (a0_1.size : Int))) - a1))).bind fun bt147 => (some (bt147.1,bt147.2.1,bt147.2.2.1,bt147.2.2.2)))) = some (r1,r2,r3,r4) := H
    have A21 := Aside0.mk A210
    clear A210
    by_cases c22 : t141 = true
    ·subst c22
     have H1 : ((decimal_more.f x9_7).bind fun t142 => ((decimal_Make.f a0_0 t142 (wrap64 ((wrap64 (a0_2 + (a0_1.size : Int))) - a1))).bind fun bt143 => (some (bt143.1,bt143.2.1,bt143.2.2.1,bt143.2.2.2)))) = some (r1,r2,r3,r4) := by rw [if_pos rfl] at H;exact H
     clear H
     have H := H1
     clear H1
     replace H := Option.bind_eq_some_iff.mp H
     obtain ⟨t142,A230,H⟩ := H
     replace H : ((decimal_Make.f a0_0 t142 (wrap64 ((wrap64 (a0_2 + (a0_1.size : Int))) - a1))).bind fun bt143 => (some (bt143.1,bt143.2.1,bt143.2.2.1,bt143.2.2.2))) = some (r1,r2,r3,r4) := H
     have A23 := Aside0.mk A230
     clear A230
     replace H := Option.bind_eq_some_iff.mp H
     obtain ⟨⟨t143,t144,t145,t146⟩,A240,H⟩ := H
     replace H : (some (t143,t144,t145,t146)) = some (r1,r2,r3,r4) := H
     have A24 := Aside0.mk A240
     clear A240
     simp only [Option.some.injEq,Prod.mk.injEq] at H
     obtain ⟨rfl,rfl,rfl,rfl⟩ := H
     have hnb25 := NB138_139.out
     have hnc25 := NB139_138.out
     have hcz26_0 : wc.cell? ⟨gb138,0,none⟩ = some (.bool a0_0) := (blk_cell BK138.out 0).trans rfl
     have hcz26_1 : wc.cell? ⟨gb138,1,none⟩ = some (.string a0_1) := (blk_cell BK138.out 1).trans rfl
     have hcz26_2 : wc.cell? ⟨gb138,2,none⟩ = some (.int .i64 a0_2) := (blk_cell BK138.out 2).trans rfl
     have hfz26_0 := blk_frozen BK138.out 0
     have hfz26_1 := blk_frozen BK138.out 1
     have hfz26_2 := blk_frozen BK138.out 2
     go_wp2_with (first | ((with_reducible refine gate_callee (f := 45) rfl ?_);refine goesL_ (some 42) rfl rfl Tryz.func45 (by kernel_rfl) rfl #[.bool a0_0,.string x9_7,.string x10_7,.int .i64 a2] rfl (by (try simp only [List.map_toArray,List.map_cons,List.map_nil]);first | done | rfl | (simp only [List.length_drop,List.length_take];rfl)) ?_;(with_reducible refine (decimal_up.calls a0_0 x9_7 x10_7 a2 true _ A21.out).mono ?_);rintro e w27 ⟨rfl,hb⟩;refine ⟨_,rfl,?_⟩;have n0_ := Aside0.mk (blk_below (g := gb138) (o := .cells #[.bool a0_0,.string a0_1,.int .i64 a0_2] 23 (0,0)) (by (with_reducible repeat (first | refine blk_drewN ?_ _ | refine blk_drew ?_ | refine blk_alloc ?_ _));exact BK138.out) hb);have n1_ := Aside0.mk (blk_below (g := gb139) (o := .cells #[.bool false,.string (⟨#[]⟩ : ByteArray),.int .i64 0] 23 (0,0)) (by (with_reducible repeat (first | refine blk_drewN ?_ _ | refine blk_drew ?_ | refine blk_alloc ?_ _));exact BK139.out) hb);have n2_ := Aside0.mk (below_step (by repeat (first | (with_reducible first | exact HB.out | apply below_alloc | apply pw_below_drewN | apply below_drew1 | refine below_set ?_ GE138.out | refine below_set ?_ GE139.out) | exact HB.out)) hb);clear BK138;clear BK139;clear HB;have BK138 := n0_;have BK139 := n1_;have HB := n2_;clear n0_ n1_ n2_;(try clear hb);(try clear hb2);(try clear hk);(try clear hi)) | ((with_reducible refine gate_callee (f := 46) rfl ?_);refine goesL_ (some 44) rfl rfl Tryz.func46 (by kernel_rfl) rfl #[.string x9_7] rfl (by (try simp only [List.map_toArray,List.map_cons,List.map_nil]);first | done | rfl | (simp only [List.length_drop,List.length_take];rfl)) ?_;(with_reducible refine (decimal_more.calls x9_7 t142 _ A23.out).mono ?_);rintro e w28 ⟨rfl,hb⟩;refine ⟨_,rfl,?_⟩;have n0_ := Aside0.mk (blk_below (g := gb138) (o := .cells #[.bool a0_0,.string a0_1,.int .i64 a0_2] 23 (0,0)) (by (with_reducible repeat (first | refine blk_drewN ?_ _ | refine blk_drew ?_ | refine blk_alloc ?_ _));exact BK138.out) hb);have n1_ := Aside0.mk (blk_below (g := gb139) (o := .cells #[.bool false,.string (⟨#[]⟩ : ByteArray),.int .i64 0] 23 (0,0)) (by (with_reducible repeat (first | refine blk_drewN ?_ _ | refine blk_drew ?_ | refine blk_alloc ?_ _));exact BK139.out) hb);have n2_ := Aside0.mk (below_step (by repeat (first | (with_reducible first | exact HB.out | apply below_alloc | apply pw_below_drewN | apply below_drew1 | refine below_set ?_ GE138.out | refine below_set ?_ GE139.out) | exact HB.out)) hb);clear BK138;clear BK139;clear HB;have BK138 := n0_;have BK139 := n1_;have HB := n2_;clear n0_ n1_ n2_;(try clear hb);(try clear hb2);(try clear hk);(try clear hi);have hcz29_0 : w28.cell? ⟨gb138,0,none⟩ = some (.bool a0_0) := (blk_cell BK138.out 0).trans rfl;have hcz29_1 : w28.cell? ⟨gb138,1,none⟩ = some (.string a0_1) := (blk_cell BK138.out 1).trans rfl;have hcz29_2 : w28.cell? ⟨gb138,2,none⟩ = some (.int .i64 a0_2) := (blk_cell BK138.out 2).trans rfl;have hfz29_0 := blk_frozen BK138.out 0;have hfz29_1 := blk_frozen BK138.out 1;have hfz29_2 := blk_frozen BK138.out 2) | ((with_reducible refine gate_callee (f := 5) rfl ?_);refine goesL_ (some 49) rfl rfl Tryz.func5 (by kernel_rfl) rfl #[.bool a0_0,.string t142,.int .i64 (wrap64 ((wrap64 (a0_2 + (a0_1.size : Int))) - a1))] rfl (by (try simp only [List.map_toArray,List.map_cons,List.map_nil]);first | done | rfl | (simp only [List.length_drop,List.length_take];rfl)) ?_;(with_reducible refine (decimal_Make.calls a0_0 t142 (wrap64 ((wrap64 (a0_2 + (a0_1.size : Int))) - a1)) t143 t144 t145 t146 _ A24.out).mono ?_);rintro e w30 ⟨rfl,hb⟩;refine ⟨_,rfl,?_⟩;have n0_ := Aside0.mk (blk_below (g := gb138) (o := .cells #[.bool a0_0,.string a0_1,.int .i64 a0_2] 23 (0,0)) (by (with_reducible repeat (first | refine blk_drewN ?_ _ | refine blk_drew ?_ | refine blk_alloc ?_ _));exact BK138.out) hb);have n1_ := Aside0.mk (blk_below (g := gb139) (o := .cells #[.bool false,.string (⟨#[]⟩ : ByteArray),.int .i64 0] 23 (0,0)) (by (with_reducible repeat (first | refine blk_drewN ?_ _ | refine blk_drew ?_ | refine blk_alloc ?_ _));exact BK139.out) hb);have n2_ := Aside0.mk (below_step (by repeat (first | (with_reducible first | exact HB.out | apply below_alloc | apply pw_below_drewN | apply below_drew1 | refine below_set ?_ GE138.out | refine below_set ?_ GE139.out) | exact HB.out)) hb);clear BK138;clear BK139;clear HB;have BK138 := n0_;have BK139 := n1_;have HB := n2_;clear n0_ n1_ n2_;(try clear hb);(try clear hb2);(try clear hk);(try clear hi);have hcz31_0 : w30.cell? ⟨gb139,0,none⟩ = some (.bool false) := (blk_cell BK139.out 0).trans rfl;have hcz31_1 : w30.cell? ⟨gb139,1,none⟩ = some (.string (⟨#[]⟩ : ByteArray)) := (blk_cell BK139.out 1).trans rfl;have hcz31_2 : w30.cell? ⟨gb139,2,none⟩ = some (.int .i64 0) := (blk_cell BK139.out 2).trans rfl;have hfz31_0 := blk_frozen BK139.out 0;have hfz31_1 := blk_frozen BK139.out 1;have hfz31_2 := blk_frozen BK139.out 2))
     refine bodyPost_ret (results_ct rfl _ _ gb139 23 #[.bool t143,.string t144,.int .i64 t145] (0,0) _ rfl (by (with_reducible repeat (first | refine blk_drewN ?_ _ | refine blk_drew ?_ | refine blk_alloc ?_ _));refine blk_put (cs := #[.bool t143,.string t144,.int .i64 0]) ?_ 2 _ rfl;(with_reducible repeat (first | refine blk_drewN ?_ _ | refine blk_drew ?_ | refine blk_alloc ?_ _));refine blk_put (cs := #[.bool t143,.string (⟨#[]⟩ : ByteArray),.int .i64 0]) ?_ 1 _ rfl;(with_reducible repeat (first | refine blk_drewN ?_ _ | refine blk_drew ?_ | refine blk_alloc ?_ _));refine blk_put (cs := #[.bool false,.string (⟨#[]⟩ : ByteArray),.int .i64 0]) ?_ 0 _ rfl;(with_reducible repeat (first | refine blk_drewN ?_ _ | refine blk_drew ?_ | refine blk_alloc ?_ _));exact BK139.out) Tryz.underlying23 rfl (by kernel_rfl)) rfl ?_
     exact ⟨by first | rfl | (simp [errW_none,errW_some] <;> rfl) | (simp only [← hji4,← hji5];first | rfl | (simp [errW_none,errW_some] <;> rfl)) | (simp [*,errW_none,errW_some] <;> rfl),by repeat (first | (with_reducible first | exact HB.out | apply below_alloc | apply pw_below_drewN | apply below_drew1 | refine below_set ?_ GE138.out | refine below_set ?_ GE139.out) | exact HB.out)⟩
    ·replace c22 := Bool.eq_false_iff.mpr c22
     subst c22
     have H1 : ((decimal_Make.f a0_0 x9_7 (wrap64 ((wrap64 (a0_2 + (a0_1.size : Int))) - a1))).bind fun bt147 => (some (bt147.1,bt147.2.1,bt147.2.2.1,bt147.2.2.2))) = some (r1,r2,r3,r4) := by rw [if_neg (show ¬ (false = true) by decide)] at H;exact H
     clear H
     have H := H1
     clear H1
     replace H := Option.bind_eq_some_iff.mp H
     obtain ⟨⟨t147,t148,t149,t150⟩,A320,H⟩ := H
     replace H : (some (t147,t148,t149,t150)) = some (r1,r2,r3,r4) := H
     have A32 := Aside0.mk A320
     clear A320
     simp only [Option.some.injEq,Prod.mk.injEq] at H
     obtain ⟨rfl,rfl,rfl,rfl⟩ := H
     have hnb33 := NB138_139.out
     have hnc33 := NB139_138.out
     have hcz34_0 : wc.cell? ⟨gb138,0,none⟩ = some (.bool a0_0) := (blk_cell BK138.out 0).trans rfl
     have hcz34_1 : wc.cell? ⟨gb138,1,none⟩ = some (.string a0_1) := (blk_cell BK138.out 1).trans rfl
     have hcz34_2 : wc.cell? ⟨gb138,2,none⟩ = some (.int .i64 a0_2) := (blk_cell BK138.out 2).trans rfl
     have hfz34_0 := blk_frozen BK138.out 0
     have hfz34_1 := blk_frozen BK138.out 1
     have hfz34_2 := blk_frozen BK138.out 2
     go_wp2_with (first | ((with_reducible refine gate_callee (f := 45) rfl ?_);refine goesL_ (some 42) rfl rfl Tryz.func45 (by kernel_rfl) rfl #[.bool a0_0,.string x9_7,.string x10_7,.int .i64 a2] rfl (by (try simp only [List.map_toArray,List.map_cons,List.map_nil]);first | done | rfl | (simp only [List.length_drop,List.length_take];rfl)) ?_;(with_reducible refine (decimal_up.calls a0_0 x9_7 x10_7 a2 false _ A21.out).mono ?_);rintro e w35 ⟨rfl,hb⟩;refine ⟨_,rfl,?_⟩;have n0_ := Aside0.mk (blk_below (g := gb138) (o := .cells #[.bool a0_0,.string a0_1,.int .i64 a0_2] 23 (0,0)) (by (with_reducible repeat (first | refine blk_drewN ?_ _ | refine blk_drew ?_ | refine blk_alloc ?_ _));exact BK138.out) hb);have n1_ := Aside0.mk (blk_below (g := gb139) (o := .cells #[.bool false,.string (⟨#[]⟩ : ByteArray),.int .i64 0] 23 (0,0)) (by (with_reducible repeat (first | refine blk_drewN ?_ _ | refine blk_drew ?_ | refine blk_alloc ?_ _));exact BK139.out) hb);have n2_ := Aside0.mk (below_step (by repeat (first | (with_reducible first | exact HB.out | apply below_alloc | apply pw_below_drewN | apply below_drew1 | refine below_set ?_ GE138.out | refine below_set ?_ GE139.out) | exact HB.out)) hb);clear BK138;clear BK139;clear HB;have BK138 := n0_;have BK139 := n1_;have HB := n2_;clear n0_ n1_ n2_;(try clear hb);(try clear hb2);(try clear hk);(try clear hi);have hcz36_0 : w35.cell? ⟨gb138,0,none⟩ = some (.bool a0_0) := (blk_cell BK138.out 0).trans rfl;have hcz36_1 : w35.cell? ⟨gb138,1,none⟩ = some (.string a0_1) := (blk_cell BK138.out 1).trans rfl;have hcz36_2 : w35.cell? ⟨gb138,2,none⟩ = some (.int .i64 a0_2) := (blk_cell BK138.out 2).trans rfl;have hfz36_0 := blk_frozen BK138.out 0;have hfz36_1 := blk_frozen BK138.out 1;have hfz36_2 := blk_frozen BK138.out 2) | ((with_reducible refine gate_callee (f := 5) rfl ?_);refine goesL_ (some 49) rfl rfl Tryz.func5 (by kernel_rfl) rfl #[.bool a0_0,.string x9_7,.int .i64 (wrap64 ((wrap64 (a0_2 + (a0_1.size : Int))) - a1))] rfl (by (try simp only [List.map_toArray,List.map_cons,List.map_nil]);first | done | rfl | (simp only [List.length_drop,List.length_take];rfl)) ?_;(with_reducible refine (decimal_Make.calls a0_0 x9_7 (wrap64 ((wrap64 (a0_2 + (a0_1.size : Int))) - a1)) t147 t148 t149 t150 _ A32.out).mono ?_);rintro e w37 ⟨rfl,hb⟩;refine ⟨_,rfl,?_⟩;have n0_ := Aside0.mk (blk_below (g := gb138) (o := .cells #[.bool a0_0,.string a0_1,.int .i64 a0_2] 23 (0,0)) (by (with_reducible repeat (first | refine blk_drewN ?_ _ | refine blk_drew ?_ | refine blk_alloc ?_ _));exact BK138.out) hb);have n1_ := Aside0.mk (blk_below (g := gb139) (o := .cells #[.bool false,.string (⟨#[]⟩ : ByteArray),.int .i64 0] 23 (0,0)) (by (with_reducible repeat (first | refine blk_drewN ?_ _ | refine blk_drew ?_ | refine blk_alloc ?_ _));exact BK139.out) hb);have n2_ := Aside0.mk (below_step (by repeat (first | (with_reducible first | exact HB.out | apply below_alloc | apply pw_below_drewN | apply below_drew1 | refine below_set ?_ GE138.out | refine below_set ?_ GE139.out) | exact HB.out)) hb);clear BK138;clear BK139;clear HB;have BK138 := n0_;have BK139 := n1_;have HB := n2_;clear n0_ n1_ n2_;(try clear hb);(try clear hb2);(try clear hk);(try clear hi);have hcz38_0 : w37.cell? ⟨gb139,0,none⟩ = some (.bool false) := (blk_cell BK139.out 0).trans rfl;have hcz38_1 : w37.cell? ⟨gb139,1,none⟩ = some (.string (⟨#[]⟩ : ByteArray)) := (blk_cell BK139.out 1).trans rfl;have hcz38_2 : w37.cell? ⟨gb139,2,none⟩ = some (.int .i64 0) := (blk_cell BK139.out 2).trans rfl;have hfz38_0 := blk_frozen BK139.out 0;have hfz38_1 := blk_frozen BK139.out 1;have hfz38_2 := blk_frozen BK139.out 2))
     refine bodyPost_ret (results_ct rfl _ _ gb139 23 #[.bool t147,.string t148,.int .i64 t149] (0,0) _ rfl (by (with_reducible repeat (first | refine blk_drewN ?_ _ | refine blk_drew ?_ | refine blk_alloc ?_ _));refine blk_put (cs := #[.bool t147,.string t148,.int .i64 0]) ?_ 2 _ rfl;(with_reducible repeat (first | refine blk_drewN ?_ _ | refine blk_drew ?_ | refine blk_alloc ?_ _));refine blk_put (cs := #[.bool t147,.string (⟨#[]⟩ : ByteArray),.int .i64 0]) ?_ 1 _ rfl;(with_reducible repeat (first | refine blk_drewN ?_ _ | refine blk_drew ?_ | refine blk_alloc ?_ _));refine blk_put (cs := #[.bool false,.string (⟨#[]⟩ : ByteArray),.int .i64 0]) ?_ 0 _ rfl;(with_reducible repeat (first | refine blk_drewN ?_ _ | refine blk_drew ?_ | refine blk_alloc ?_ _));exact BK139.out) Tryz.underlying23 rfl (by kernel_rfl)) rfl ?_
     exact ⟨by first | rfl | (simp [errW_none,errW_some] <;> rfl) | (simp only [← hji4,← hji5];first | rfl | (simp [errW_none,errW_some] <;> rfl)) | (simp [*,errW_none,errW_some] <;> rfl),by repeat (first | (with_reducible first | exact HB.out | apply below_alloc | apply pw_below_drewN | apply below_drew1 | refine below_set ?_ GE138.out | refine below_set ?_ GE139.out) | exact HB.out)⟩
 ·rw [if_neg c7] at H
  exact absurd H (by simp)

/-! ### decimal_Sig: function 14 -/
def decimal_Sig.j0 : Nat → Int → Int → Bool → Bool → ByteArray → Int → Option (Bool × ByteArray × Int × Int)
 | 0,_,_,_,_,_,_ => none
 | k + 1,x1,x2,x8,x152000,x152001,x152002 => if x8 = true then (some (false,(⟨#[]⟩ : ByteArray),0,1)) else (if x1 ≥ (x152001.size : Int) then (some (x152000,x152001,x152002,0)) else ((decimal_cut.f k x152000 x152001 x152002 x1 x2).bind fun bt154 => (some (bt154.1,bt154.2.1,bt154.2.2.1,bt154.2.2.2))))
def decimal_Sig.f (k : Nat) (a0_0 : Bool) (a0_1 : ByteArray) (a0_2 : Int) (a1 : Int) (a2 : Int) : Option (Bool × ByteArray × Int × Int) := (decimal_Right.f a0_0 a0_1 a0_2).bind fun t153 => (if t153 = true then (if a2 < 0 then (decimal_Sig.j0 k a1 a2 true a0_0 a0_1 a0_2) else (if a2 > 5 then (decimal_Sig.j0 k a1 a2 true a0_0 a0_1 a0_2) else (decimal_Sig.j0 k a1 a2 (decide (a1 < 1)) a0_0 a0_1 a0_2))) else (decimal_Sig.j0 k a1 a2 true a0_0 a0_1 a0_2))
set_option maxHeartbeats 8000000 in
set_option maxRecDepth 100000 in
theorem decimal_Sig.calls (k : Nat) (a0_0 : Bool) (a0_1 : ByteArray) (a0_2 : Int) (a1 : Int) (a2 : Int) (r1 : Bool) (r2 : ByteArray) (r3 : Int) (r4 : Int) (w : World) (h : decimal_Sig.f k a0_0 a0_1 a0_2 a1 a2 = some (r1,r2,r3,r4)) :
  Calls Tryz.prog 14 #[.agg #[.bool a0_0,.string a0_1,.int .i64 a0_2],.int .i64 a1,.int .i64 a2] w fun e w' => e = .returned (.tuple #[.agg #[.bool r1,.string r2,.int .i64 r3],.int .i64 r4]) ∧ Below w.heap.size w w' := by
 have hu23 := Tryz.underlying23
 have HB := Aside0.mk (Below.refl w.heap.size w)
 have H : ((decimal_Right.f a0_0 a0_1 a0_2).bind fun t153 => (if t153 = true then (if a2 < 0 then (decimal_Sig.j0 k a1 a2 true a0_0 a0_1 a0_2) else (if a2 > 5 then (decimal_Sig.j0 k a1 a2 true a0_0 a0_1 a0_2) else (decimal_Sig.j0 k a1 a2 (decide (a1 < 1)) a0_0 a0_1 a0_2))) else (decimal_Sig.j0 k a1 a2 true a0_0 a0_1 a0_2))) = some (r1,r2,r3,r4) := h
 clear h
 have HC4 := Aside0.mk H
 clear H
 go_enter Tryz.func14,Tryz.ntmps14
 go_upto_region 1 with (first | ((with_reducible refine gate_dst (N := 3) rfl ?_);refine box_event ?hg (N := 3) ?hd (cs := #[.bool a0_0,.string a0_1,.int .i64 a0_2]) (t := 23) ?hr ?_;(case hd => rfl);(case hg => rfl);(case hr => first | (go_simp;done) | (go_simp;rfl));intro gb151 hg w5 hbox hb;have n0_ := Aside0.mk (below_step (by repeat (first | (with_reducible first | exact HB.out | apply below_alloc | apply pw_below_drewN | apply below_drew1) | exact HB.out)) hb);have n1_ := Aside0.mk (hbox);have n2_ := Aside0.mk ((by rw [hg];exact (below_size (by repeat (first | (with_reducible first | exact HB.out | apply below_alloc | apply pw_below_drewN | apply below_drew1) | exact HB.out))) : w.heap.size ≤ gb151));have n3_ := Aside0.mk ((by rw [hg];exact (below_size (by repeat (first | (with_reducible first | exact HB.out | apply below_alloc | apply pw_below_drewN | apply below_drew1) | exact HB.out))) : w.heap.size ≤ gb151));clear HB;have HB := n0_;have BK151 := n1_;have GW151 := n2_;have GE151 := n3_;clear n0_ n1_ n2_ n3_;clear hb hbox hg) | ((with_reducible refine gate_dst (N := 6) rfl ?_);refine box_event ?hg (N := 6) ?hd (cs := #[.bool false,.string (⟨#[]⟩ : ByteArray),.int .i64 0]) (t := 23) ?hr ?_;(case hd => rfl);(case hg => rfl);(case hr => first | (go_simp;done) | (go_simp;rfl));intro gb152 hg w6 hbox hb;have n0_ := Aside0.mk (blk_below (g := gb151) (o := .cells #[.bool a0_0,.string a0_1,.int .i64 a0_2] 23 (0,0)) (by (with_reducible repeat (first | refine blk_drewN ?_ _ | refine blk_drew ?_ | refine blk_alloc ?_ _));exact BK151.out) hb);have n1_ := Aside0.mk (below_step (by repeat (first | (with_reducible first | exact HB.out | apply below_alloc | apply pw_below_drewN | apply below_drew1 | refine below_set ?_ GE151.out) | exact HB.out)) hb);have n2_ := Aside0.mk (hbox);have n3_ := Aside0.mk ((by rw [hg];exact (below_size (by repeat (first | (with_reducible first | exact HB.out | apply below_alloc | apply pw_below_drewN | apply below_drew1 | refine below_set ?_ GE151.out) | exact HB.out))) : w.heap.size ≤ gb152));have n4_ := Aside0.mk ((by rw [hg];exact (below_size (by repeat (first | (with_reducible first | exact HB.out | apply below_alloc | apply pw_below_drewN | apply below_drew1 | refine below_set ?_ GE151.out) | exact HB.out))) : w.heap.size ≤ gb152));have n5_ := Aside0.mk ((by rw [hg];exact Nat.ne_of_lt (blk_lt (g := gb151) (o := .cells #[.bool a0_0,.string a0_1,.int .i64 a0_2] 23 (0,0)) (by (with_reducible repeat (first | refine blk_drewN ?_ _ | refine blk_drew ?_ | refine blk_alloc ?_ _));exact BK151.out)) : gb151 ≠ gb152));have n6_ := Aside0.mk ((by rw [hg];exact Nat.ne_of_gt (blk_lt (g := gb151) (o := .cells #[.bool a0_0,.string a0_1,.int .i64 a0_2] 23 (0,0)) (by (with_reducible repeat (first | refine blk_drewN ?_ _ | refine blk_drew ?_ | refine blk_alloc ?_ _));exact BK151.out)) : gb152 ≠ gb151));clear BK151;clear HB;have BK151 := n0_;have HB := n1_;have BK152 := n2_;have GW152 := n3_;have GE152 := n4_;have NB151_152 := n5_;have NB152_151 := n6_;clear n0_ n1_ n2_ n3_ n4_ n5_ n6_;clear hb hbox hg))
 (try simp only [Act.put,List.setIfInBounds_toArray,List.set_cons_zero,List.set_cons_succ])
 go_cut [8] (fun v8 wc => ∃ (kq : Nat) (x8_3 : Bool),v8 = .bool x8_3 ∧ Aside0 (decimal_Sig.j0 kq a1 a2 x8_3 a0_0 a0_1 a0_2 = some (r1,r2,r3,r4)) ∧ Aside0 (kq ≤ k) ∧ Aside0 (wc.heap[gb151]? = some (.cells #[.bool a0_0,.string a0_1,.int .i64 a0_2] 23 (0,0))) ∧ Aside0 (wc.heap[gb152]? = some (.cells #[.bool false,.string (⟨#[]⟩ : ByteArray),.int .i64 0] 23 (0,0))) ∧ Aside0 (Below w.heap.size w wc))
 case first =>
  have H := HC4.out
  clear HC4
  replace H := Option.bind_eq_some_iff.mp H
  obtain ⟨t153,A70,H⟩ := H
  replace H : (if t153 = true then (if a2 < 0 then (decimal_Sig.j0 k a1 a2 true a0_0 a0_1 a0_2) else (if a2 > 5 then (decimal_Sig.j0 k a1 a2 true a0_0 a0_1 a0_2) else (decimal_Sig.j0 k a1 a2 (decide (a1 < 1)) a0_0 a0_1 a0_2))) else (decimal_Sig.j0 k a1 a2 true a0_0 a0_1 a0_2)) = some (r1,r2,r3,r4) := H
  have A7 := Aside0.mk A70
  clear A70
  by_cases c8 : t153 = true
  ·subst c8
   have H1 : (if a2 < 0 then (decimal_Sig.j0 k a1 a2 true a0_0 a0_1 a0_2) else (if a2 > 5 then (decimal_Sig.j0 k a1 a2 true a0_0 a0_1 a0_2) else (decimal_Sig.j0 k a1 a2 (decide (a1 < 1)) a0_0 a0_1 a0_2))) = some (r1,r2,r3,r4) := by rw [if_pos rfl] at H;exact H
   clear H
   have H := H1
   clear H1
   by_cases c9 : a2 < 0
   ·rw [if_pos c9] at H
    have c9b0 : decide (a2 < 0) = true := decide_eq_true c9
    clear c9
    (first | rw [c9b0] | (simp only [i64_w,i32_w];rw [c9b0]) | skip)
    have H' := Aside0.mk H
    clear H
    have hnb10 := NB151_152.out
    have hnc10 := NB152_151.out
    have hcz11_0 : w6.cell? ⟨gb151,0,none⟩ = some (.bool a0_0) := (blk_cell BK151.out 0).trans rfl
    have hcz11_1 : w6.cell? ⟨gb151,1,none⟩ = some (.string a0_1) := (blk_cell BK151.out 1).trans rfl
    have hcz11_2 : w6.cell? ⟨gb151,2,none⟩ = some (.int .i64 a0_2) := (blk_cell BK151.out 2).trans rfl
    have hfz11_0 := blk_frozen BK151.out 0
    have hfz11_1 := blk_frozen BK151.out 1
    have hfz11_2 := blk_frozen BK151.out 2
    go_wp2_with (first | ((with_reducible refine gate_callee (f := 7) rfl ?_);refine goesL_ (some 10) rfl rfl Tryz.func7 (by kernel_rfl) rfl #[.agg #[.bool a0_0,.string a0_1,.int .i64 a0_2]] rfl (by (try simp only [List.map_toArray,List.map_cons,List.map_nil]);first | done | rfl | (simp only [List.length_drop,List.length_take];rfl)) ?_;(with_reducible refine (decimal_Right.calls a0_0 a0_1 a0_2 true _ A7.out).mono ?_);rintro e w12 ⟨rfl,hb⟩;refine ⟨_,rfl,?_⟩;have n0_ := Aside0.mk (blk_below (g := gb151) (o := .cells #[.bool a0_0,.string a0_1,.int .i64 a0_2] 23 (0,0)) (by (with_reducible repeat (first | refine blk_drewN ?_ _ | refine blk_drew ?_ | refine blk_alloc ?_ _));exact BK151.out) hb);have n1_ := Aside0.mk (blk_below (g := gb152) (o := .cells #[.bool false,.string (⟨#[]⟩ : ByteArray),.int .i64 0] 23 (0,0)) (by (with_reducible repeat (first | refine blk_drewN ?_ _ | refine blk_drew ?_ | refine blk_alloc ?_ _));exact BK152.out) hb);have n2_ := Aside0.mk (below_step (by repeat (first | (with_reducible first | exact HB.out | apply below_alloc | apply pw_below_drewN | apply below_drew1 | refine below_set ?_ GE151.out | refine below_set ?_ GE152.out) | exact HB.out)) hb);clear BK151;clear BK152;clear HB;have BK151 := n0_;have BK152 := n1_;have HB := n2_;clear n0_ n1_ n2_;(try clear hb);(try clear hb2);(try clear hk);(try clear hi)))
    go_meet
    case rel => exact ⟨_,(true),(by first | rfl | (simp;done) | (simp [*];done)),H',⟨by first | omega | exact Nat.le_refl _⟩,⟨by (with_reducible repeat (first | refine blk_drewN ?_ _ | refine blk_drew ?_ | refine blk_alloc ?_ _));exact BK151.out⟩,⟨by (with_reducible repeat (first | refine blk_drewN ?_ _ | refine blk_drew ?_ | refine blk_alloc ?_ _));exact BK152.out⟩,⟨by repeat (first | (with_reducible first | exact HB.out | apply below_alloc | apply pw_below_drewN | apply below_drew1 | refine below_set ?_ GE151.out | refine below_set ?_ GE152.out) | exact HB.out)⟩⟩
   ·rw [if_neg c9] at H
    have c9b0 : decide (a2 < 0) = false := decide_eq_false c9
    clear c9
    (first | rw [c9b0] | (simp only [i64_w,i32_w];rw [c9b0]) | skip)
    by_cases c13 : a2 > 5
    ·rw [if_pos c13] at H
     have c13b0 : decide (5 < a2) = true := decide_eq_true c13
     clear c13
     have H' := Aside0.mk H
     clear H
     have hnb14 := NB151_152.out
     have hnc14 := NB152_151.out
     have hcz15_0 : w6.cell? ⟨gb151,0,none⟩ = some (.bool a0_0) := (blk_cell BK151.out 0).trans rfl
     have hcz15_1 : w6.cell? ⟨gb151,1,none⟩ = some (.string a0_1) := (blk_cell BK151.out 1).trans rfl
     have hcz15_2 : w6.cell? ⟨gb151,2,none⟩ = some (.int .i64 a0_2) := (blk_cell BK151.out 2).trans rfl
     have hfz15_0 := blk_frozen BK151.out 0
     have hfz15_1 := blk_frozen BK151.out 1
     have hfz15_2 := blk_frozen BK151.out 2
     go_wp2_with (first | ((with_reducible refine gate_callee (f := 7) rfl ?_);refine goesL_ (some 10) rfl rfl Tryz.func7 (by kernel_rfl) rfl #[.agg #[.bool a0_0,.string a0_1,.int .i64 a0_2]] rfl (by (try simp only [List.map_toArray,List.map_cons,List.map_nil]);first | done | rfl | (simp only [List.length_drop,List.length_take];rfl)) ?_;(with_reducible refine (decimal_Right.calls a0_0 a0_1 a0_2 true _ A7.out).mono ?_);rintro e w16 ⟨rfl,hb⟩;refine ⟨_,rfl,?_⟩;have n0_ := Aside0.mk (blk_below (g := gb151) (o := .cells #[.bool a0_0,.string a0_1,.int .i64 a0_2] 23 (0,0)) (by (with_reducible repeat (first | refine blk_drewN ?_ _ | refine blk_drew ?_ | refine blk_alloc ?_ _));exact BK151.out) hb);have n1_ := Aside0.mk (blk_below (g := gb152) (o := .cells #[.bool false,.string (⟨#[]⟩ : ByteArray),.int .i64 0] 23 (0,0)) (by (with_reducible repeat (first | refine blk_drewN ?_ _ | refine blk_drew ?_ | refine blk_alloc ?_ _));exact BK152.out) hb);have n2_ := Aside0.mk (below_step (by repeat (first | (with_reducible first | exact HB.out | apply below_alloc | apply pw_below_drewN | apply below_drew1 | refine below_set ?_ GE151.out | refine below_set ?_ GE152.out) | exact HB.out)) hb);clear BK151;clear BK152;clear HB;have BK151 := n0_;have BK152 := n1_;have HB := n2_;clear n0_ n1_ n2_;(try clear hb);(try clear hb2);(try clear hk);(try clear hi)))
     go_meet
     case rel => exact ⟨_,(true),(by first | rfl | (simp;done) | (simp [*];done)),H',⟨by first | omega | exact Nat.le_refl _⟩,⟨by (with_reducible repeat (first | refine blk_drewN ?_ _ | refine blk_drew ?_ | refine blk_alloc ?_ _));exact BK151.out⟩,⟨by (with_reducible repeat (first | refine blk_drewN ?_ _ | refine blk_drew ?_ | refine blk_alloc ?_ _));exact BK152.out⟩,⟨by repeat (first | (with_reducible first | exact HB.out | apply below_alloc | apply pw_below_drewN | apply below_drew1 | refine below_set ?_ GE151.out | refine below_set ?_ GE152.out) | exact HB.out)⟩⟩
    ·rw [if_neg c13] at H
     have c13b0 : decide (5 < a2) = false := decide_eq_false c13
     clear c13
     have H' := Aside0.mk H
     clear H
     have hnb17 := NB151_152.out
     have hnc17 := NB152_151.out
     have hcz18_0 : w6.cell? ⟨gb151,0,none⟩ = some (.bool a0_0) := (blk_cell BK151.out 0).trans rfl
     have hcz18_1 : w6.cell? ⟨gb151,1,none⟩ = some (.string a0_1) := (blk_cell BK151.out 1).trans rfl
     have hcz18_2 : w6.cell? ⟨gb151,2,none⟩ = some (.int .i64 a0_2) := (blk_cell BK151.out 2).trans rfl
     have hfz18_0 := blk_frozen BK151.out 0
     have hfz18_1 := blk_frozen BK151.out 1
     have hfz18_2 := blk_frozen BK151.out 2
     go_wp2_with (first | ((with_reducible refine gate_callee (f := 7) rfl ?_);refine goesL_ (some 10) rfl rfl Tryz.func7 (by kernel_rfl) rfl #[.agg #[.bool a0_0,.string a0_1,.int .i64 a0_2]] rfl (by (try simp only [List.map_toArray,List.map_cons,List.map_nil]);first | done | rfl | (simp only [List.length_drop,List.length_take];rfl)) ?_;(with_reducible refine (decimal_Right.calls a0_0 a0_1 a0_2 true _ A7.out).mono ?_);rintro e w19 ⟨rfl,hb⟩;refine ⟨_,rfl,?_⟩;have n0_ := Aside0.mk (blk_below (g := gb151) (o := .cells #[.bool a0_0,.string a0_1,.int .i64 a0_2] 23 (0,0)) (by (with_reducible repeat (first | refine blk_drewN ?_ _ | refine blk_drew ?_ | refine blk_alloc ?_ _));exact BK151.out) hb);have n1_ := Aside0.mk (blk_below (g := gb152) (o := .cells #[.bool false,.string (⟨#[]⟩ : ByteArray),.int .i64 0] 23 (0,0)) (by (with_reducible repeat (first | refine blk_drewN ?_ _ | refine blk_drew ?_ | refine blk_alloc ?_ _));exact BK152.out) hb);have n2_ := Aside0.mk (below_step (by repeat (first | (with_reducible first | exact HB.out | apply below_alloc | apply pw_below_drewN | apply below_drew1 | refine below_set ?_ GE151.out | refine below_set ?_ GE152.out) | exact HB.out)) hb);clear BK151;clear BK152;clear HB;have BK151 := n0_;have BK152 := n1_;have HB := n2_;clear n0_ n1_ n2_;(try clear hb);(try clear hb2);(try clear hk);(try clear hi)))
     go_meet
     case rel => exact ⟨_,(decide (a1 < 1)),(by first | rfl | (simp;done) | (simp [*];done)),H',⟨by first | omega | exact Nat.le_refl _⟩,⟨by (with_reducible repeat (first | refine blk_drewN ?_ _ | refine blk_drew ?_ | refine blk_alloc ?_ _));exact BK151.out⟩,⟨by (with_reducible repeat (first | refine blk_drewN ?_ _ | refine blk_drew ?_ | refine blk_alloc ?_ _));exact BK152.out⟩,⟨by repeat (first | (with_reducible first | exact HB.out | apply below_alloc | apply pw_below_drewN | apply below_drew1 | refine below_set ?_ GE151.out | refine below_set ?_ GE152.out) | exact HB.out)⟩⟩
  ·replace c8 := Bool.eq_false_iff.mpr c8
   subst c8
   have H1 : (decimal_Sig.j0 k a1 a2 true a0_0 a0_1 a0_2) = some (r1,r2,r3,r4) := by rw [if_neg (show ¬ (false = true) by decide)] at H;exact H
   clear H
   have H := H1
   clear H1
   have H' := Aside0.mk H
   clear H
   have hnb20 := NB151_152.out
   have hnc20 := NB152_151.out
   have hcz21_0 : w6.cell? ⟨gb151,0,none⟩ = some (.bool a0_0) := (blk_cell BK151.out 0).trans rfl
   have hcz21_1 : w6.cell? ⟨gb151,1,none⟩ = some (.string a0_1) := (blk_cell BK151.out 1).trans rfl
   have hcz21_2 : w6.cell? ⟨gb151,2,none⟩ = some (.int .i64 a0_2) := (blk_cell BK151.out 2).trans rfl
   have hfz21_0 := blk_frozen BK151.out 0
   have hfz21_1 := blk_frozen BK151.out 1
   have hfz21_2 := blk_frozen BK151.out 2
   go_wp2_with (first | ((with_reducible refine gate_callee (f := 7) rfl ?_);refine goesL_ (some 10) rfl rfl Tryz.func7 (by kernel_rfl) rfl #[.agg #[.bool a0_0,.string a0_1,.int .i64 a0_2]] rfl (by (try simp only [List.map_toArray,List.map_cons,List.map_nil]);first | done | rfl | (simp only [List.length_drop,List.length_take];rfl)) ?_;(with_reducible refine (decimal_Right.calls a0_0 a0_1 a0_2 false _ A7.out).mono ?_);rintro e w22 ⟨rfl,hb⟩;refine ⟨_,rfl,?_⟩;have n0_ := Aside0.mk (blk_below (g := gb151) (o := .cells #[.bool a0_0,.string a0_1,.int .i64 a0_2] 23 (0,0)) (by (with_reducible repeat (first | refine blk_drewN ?_ _ | refine blk_drew ?_ | refine blk_alloc ?_ _));exact BK151.out) hb);have n1_ := Aside0.mk (blk_below (g := gb152) (o := .cells #[.bool false,.string (⟨#[]⟩ : ByteArray),.int .i64 0] 23 (0,0)) (by (with_reducible repeat (first | refine blk_drewN ?_ _ | refine blk_drew ?_ | refine blk_alloc ?_ _));exact BK152.out) hb);have n2_ := Aside0.mk (below_step (by repeat (first | (with_reducible first | exact HB.out | apply below_alloc | apply pw_below_drewN | apply below_drew1 | refine below_set ?_ GE151.out | refine below_set ?_ GE152.out) | exact HB.out)) hb);clear BK151;clear BK152;clear HB;have BK151 := n0_;have BK152 := n1_;have HB := n2_;clear n0_ n1_ n2_;(try clear hb);(try clear hb2);(try clear hk);(try clear hi)))
   go_meet
   case rel => exact ⟨_,(true),(by first | rfl | (simp;done) | (simp [*];done)),H',⟨by first | omega | exact Nat.le_refl _⟩,⟨by (with_reducible repeat (first | refine blk_drewN ?_ _ | refine blk_drew ?_ | refine blk_alloc ?_ _));exact BK151.out⟩,⟨by (with_reducible repeat (first | refine blk_drewN ?_ _ | refine blk_drew ?_ | refine blk_alloc ?_ _));exact BK152.out⟩,⟨by repeat (first | (with_reducible first | exact HB.out | apply below_alloc | apply pw_below_drewN | apply below_drew1 | refine below_set ?_ GE151.out | refine below_set ?_ GE152.out) | exact HB.out)⟩⟩
 case rest =>
  clear HC4
  try clear c1
  try clear c2
  try clear p2
  try clear c7
  try clear c8
  try clear c9
  try clear c9b0
  try clear c10
  try clear c13
  try clear c13b0
  try clear c14
  try clear c17
  try clear c20
  try clear hcz11_0
  try clear hcz11_1
  try clear hcz11_2
  try clear hcz15_0
  try clear hcz15_1
  try clear hcz15_2
  try clear hcz18_0
  try clear hcz18_1
  try clear hcz18_2
  try clear hcz21_0
  try clear hcz21_1
  try clear hcz21_2
  try clear hfz11_0
  try clear hfz11_1
  try clear hfz11_2
  try clear hfz15_0
  try clear hfz15_1
  try clear hfz15_2
  try clear hfz18_0
  try clear hfz18_1
  try clear hfz18_2
  try clear hfz21_0
  try clear hfz21_1
  try clear hfz21_2
  obtain ⟨kq,x8_3,rfl,HA,HJ3,BK151,BK152,HB⟩ := hcut
  cases kq with
  | zero => exact absurd HA.out (by simp [decimal_Sig.j0])
  | succ kj3 =>
   have H := HA.out
   clear HA
   simp only [decimal_Sig.j0] at H
   by_cases c23 : x8_3 = true
   ·subst c23
    have H1 : (some (false,(⟨#[]⟩ : ByteArray),0,1)) = some (r1,r2,r3,r4) := by rw [if_pos rfl] at H;exact H
    clear H
    have H := H1
    clear H1
    simp only [Option.some.injEq,Prod.mk.injEq] at H
    obtain ⟨rfl,rfl,rfl,rfl⟩ := H
    have hnb24 := NB152_151.out
    have hnc24 := NB151_152.out
    have hcz25_0 : wc.cell? ⟨gb152,0,none⟩ = some (.bool false) := (blk_cell BK152.out 0).trans rfl
    have hcz25_1 : wc.cell? ⟨gb152,1,none⟩ = some (.string (⟨#[]⟩ : ByteArray)) := (blk_cell BK152.out 1).trans rfl
    have hcz25_2 : wc.cell? ⟨gb152,2,none⟩ = some (.int .i64 0) := (blk_cell BK152.out 2).trans rfl
    have hfz25_0 := blk_frozen BK152.out 0
    have hfz25_1 := blk_frozen BK152.out 1
    have hfz25_2 := blk_frozen BK152.out 2
    go_wp2
    refine bodyPost_ret (results_ct rfl _ _ gb152 23 #[.bool false,.string (⟨#[]⟩ : ByteArray),.int .i64 0] (0,0) _ rfl (by (with_reducible repeat (first | refine blk_drewN ?_ _ | refine blk_drew ?_ | refine blk_alloc ?_ _));refine blk_put (cs := #[.bool false,.string (⟨#[]⟩ : ByteArray),.int .i64 0]) ?_ 2 _ rfl;(with_reducible repeat (first | refine blk_drewN ?_ _ | refine blk_drew ?_ | refine blk_alloc ?_ _));refine blk_put (cs := #[.bool false,.string (⟨#[]⟩ : ByteArray),.int .i64 0]) ?_ 1 _ rfl;(with_reducible repeat (first | refine blk_drewN ?_ _ | refine blk_drew ?_ | refine blk_alloc ?_ _));refine blk_put (cs := #[.bool false,.string (⟨#[]⟩ : ByteArray),.int .i64 0]) ?_ 0 _ rfl;(with_reducible repeat (first | refine blk_drewN ?_ _ | refine blk_drew ?_ | refine blk_alloc ?_ _));exact BK152.out) Tryz.underlying23 rfl (by kernel_rfl)) rfl ?_
    exact ⟨by first | rfl | (simp [errW_none,errW_some] <;> rfl) | (simp [*,errW_none,errW_some] <;> rfl),by repeat (first | (with_reducible first | exact HB.out | apply below_alloc | apply pw_below_drewN | apply below_drew1 | refine below_set ?_ GE151.out | refine below_set ?_ GE152.out) | exact HB.out)⟩
   ·replace c23 := Bool.eq_false_iff.mpr c23
    subst c23
    have H1 : (if a1 ≥ (a0_1.size : Int) then (some (a0_0,a0_1,a0_2,0)) else ((decimal_cut.f kj3 a0_0 a0_1 a0_2 a1 a2).bind fun bt154 => (some (bt154.1,bt154.2.1,bt154.2.2.1,bt154.2.2.2)))) = some (r1,r2,r3,r4) := by rw [if_neg (show ¬ (false = true) by decide)] at H;exact H
    clear H
    have H := H1
    clear H1
    by_cases c26 : a1 ≥ (a0_1.size : Int)
    ·rw [if_pos c26] at H
     have c26b0 : decide ((a0_1.size : Int) ≤ a1) = true := decide_eq_true c26
     clear c26
     simp only [Option.some.injEq,Prod.mk.injEq] at H
     obtain ⟨rfl,rfl,rfl,rfl⟩ := H
     have hnb27 := NB151_152.out
     have hnc27 := NB152_151.out
     have hcz28_0 : wc.cell? ⟨gb151,0,none⟩ = some (.bool a0_0) := (blk_cell BK151.out 0).trans rfl
     have hcz28_1 : wc.cell? ⟨gb151,1,none⟩ = some (.string a0_1) := (blk_cell BK151.out 1).trans rfl
     have hcz28_2 : wc.cell? ⟨gb151,2,none⟩ = some (.int .i64 a0_2) := (blk_cell BK151.out 2).trans rfl
     have hfz28_0 := blk_frozen BK151.out 0
     have hfz28_1 := blk_frozen BK151.out 1
     have hfz28_2 := blk_frozen BK151.out 2
     have hcz29_0 : wc.cell? ⟨gb152,0,none⟩ = some (.bool false) := (blk_cell BK152.out 0).trans rfl
     have hcz29_1 : wc.cell? ⟨gb152,1,none⟩ = some (.string (⟨#[]⟩ : ByteArray)) := (blk_cell BK152.out 1).trans rfl
     have hcz29_2 : wc.cell? ⟨gb152,2,none⟩ = some (.int .i64 0) := (blk_cell BK152.out 2).trans rfl
     have hfz29_0 := blk_frozen BK152.out 0
     have hfz29_1 := blk_frozen BK152.out 1
     have hfz29_2 := blk_frozen BK152.out 2
     go_wp2
     refine bodyPost_ret (results_ct rfl _ _ gb152 23 #[.bool a0_0,.string a0_1,.int .i64 a0_2] (0,0) _ rfl (by (with_reducible repeat (first | refine blk_drewN ?_ _ | refine blk_drew ?_ | refine blk_alloc ?_ _));refine blk_put (cs := #[.bool a0_0,.string a0_1,.int .i64 0]) ?_ 2 _ rfl;(with_reducible repeat (first | refine blk_drewN ?_ _ | refine blk_drew ?_ | refine blk_alloc ?_ _));refine blk_put (cs := #[.bool a0_0,.string (⟨#[]⟩ : ByteArray),.int .i64 0]) ?_ 1 _ rfl;(with_reducible repeat (first | refine blk_drewN ?_ _ | refine blk_drew ?_ | refine blk_alloc ?_ _));refine blk_put (cs := #[.bool false,.string (⟨#[]⟩ : ByteArray),.int .i64 0]) ?_ 0 _ rfl;(with_reducible repeat (first | refine blk_drewN ?_ _ | refine blk_drew ?_ | refine blk_alloc ?_ _));exact BK152.out) Tryz.underlying23 rfl (by kernel_rfl)) rfl ?_
     exact ⟨by first | rfl | (simp [errW_none,errW_some] <;> rfl) | (simp [*,errW_none,errW_some] <;> rfl),by repeat (first | (with_reducible first | exact HB.out | apply below_alloc | apply pw_below_drewN | apply below_drew1 | refine below_set ?_ GE151.out | refine below_set ?_ GE152.out) | exact HB.out)⟩
    ·rw [if_neg c26] at H
     have c26b0 : decide ((a0_1.size : Int) ≤ a1) = false := decide_eq_false c26
     clear c26
     replace H := Option.bind_eq_some_iff.mp H
     obtain ⟨⟨t154,t155,t156,t157⟩,A300,H⟩ := H
     replace H : (some (t154,t155,t156,t157)) = some (r1,r2,r3,r4) := H
     have A30 := Aside0.mk A300
     clear A300
     simp only [Option.some.injEq,Prod.mk.injEq] at H
     obtain ⟨rfl,rfl,rfl,rfl⟩ := H
     have hnb31 := NB151_152.out
     have hnc31 := NB152_151.out
     have hcz32_0 : wc.cell? ⟨gb151,0,none⟩ = some (.bool a0_0) := (blk_cell BK151.out 0).trans rfl
     have hcz32_1 : wc.cell? ⟨gb151,1,none⟩ = some (.string a0_1) := (blk_cell BK151.out 1).trans rfl
     have hcz32_2 : wc.cell? ⟨gb151,2,none⟩ = some (.int .i64 a0_2) := (blk_cell BK151.out 2).trans rfl
     have hfz32_0 := blk_frozen BK151.out 0
     have hfz32_1 := blk_frozen BK151.out 1
     have hfz32_2 := blk_frozen BK151.out 2
     go_wp2_with (first | ((with_reducible refine gate_callee (f := 27) rfl ?_);refine goesL_ (some 35) rfl rfl Tryz.func27 (by kernel_rfl) rfl #[.agg #[.bool a0_0,.string a0_1,.int .i64 a0_2],.int .i64 a1,.int .i64 a2] rfl (by (try simp only [List.map_toArray,List.map_cons,List.map_nil]);first | done | rfl | (simp only [List.length_drop,List.length_take];rfl)) ?_;(with_reducible refine (decimal_cut.calls kj3 a0_0 a0_1 a0_2 a1 a2 t154 t155 t156 t157 _ A30.out).mono ?_);rintro e w33 ⟨rfl,hb⟩;refine ⟨_,rfl,?_⟩;have n0_ := Aside0.mk (blk_below (g := gb151) (o := .cells #[.bool a0_0,.string a0_1,.int .i64 a0_2] 23 (0,0)) (by (with_reducible repeat (first | refine blk_drewN ?_ _ | refine blk_drew ?_ | refine blk_alloc ?_ _));exact BK151.out) hb);have n1_ := Aside0.mk (blk_below (g := gb152) (o := .cells #[.bool false,.string (⟨#[]⟩ : ByteArray),.int .i64 0] 23 (0,0)) (by (with_reducible repeat (first | refine blk_drewN ?_ _ | refine blk_drew ?_ | refine blk_alloc ?_ _));exact BK152.out) hb);have n2_ := Aside0.mk (below_step (by repeat (first | (with_reducible first | exact HB.out | apply below_alloc | apply pw_below_drewN | apply below_drew1 | refine below_set ?_ GE151.out | refine below_set ?_ GE152.out) | exact HB.out)) hb);clear BK151;clear BK152;clear HB;have BK151 := n0_;have BK152 := n1_;have HB := n2_;clear n0_ n1_ n2_;(try clear hb);(try clear hb2);(try clear hk);(try clear hi);have hcz34_0 : w33.cell? ⟨gb152,0,none⟩ = some (.bool false) := (blk_cell BK152.out 0).trans rfl;have hcz34_1 : w33.cell? ⟨gb152,1,none⟩ = some (.string (⟨#[]⟩ : ByteArray)) := (blk_cell BK152.out 1).trans rfl;have hcz34_2 : w33.cell? ⟨gb152,2,none⟩ = some (.int .i64 0) := (blk_cell BK152.out 2).trans rfl;have hfz34_0 := blk_frozen BK152.out 0;have hfz34_1 := blk_frozen BK152.out 1;have hfz34_2 := blk_frozen BK152.out 2))
     refine bodyPost_ret (results_ct rfl _ _ gb152 23 #[.bool t154,.string t155,.int .i64 t156] (0,0) _ rfl (by (with_reducible repeat (first | refine blk_drewN ?_ _ | refine blk_drew ?_ | refine blk_alloc ?_ _));refine blk_put (cs := #[.bool t154,.string t155,.int .i64 0]) ?_ 2 _ rfl;(with_reducible repeat (first | refine blk_drewN ?_ _ | refine blk_drew ?_ | refine blk_alloc ?_ _));refine blk_put (cs := #[.bool t154,.string (⟨#[]⟩ : ByteArray),.int .i64 0]) ?_ 1 _ rfl;(with_reducible repeat (first | refine blk_drewN ?_ _ | refine blk_drew ?_ | refine blk_alloc ?_ _));refine blk_put (cs := #[.bool false,.string (⟨#[]⟩ : ByteArray),.int .i64 0]) ?_ 0 _ rfl;(with_reducible repeat (first | refine blk_drewN ?_ _ | refine blk_drew ?_ | refine blk_alloc ?_ _));exact BK152.out) Tryz.underlying23 rfl (by kernel_rfl)) rfl ?_
     exact ⟨by first | rfl | (simp [errW_none,errW_some] <;> rfl) | (simp [*,errW_none,errW_some] <;> rfl),by repeat (first | (with_reducible first | exact HB.out | apply below_alloc | apply pw_below_drewN | apply below_drew1 | refine below_set ?_ GE151.out | refine below_set ?_ GE152.out) | exact HB.out)⟩

end Go.Proofs.YtneeeaafhjaooaaGreatDoor.P
