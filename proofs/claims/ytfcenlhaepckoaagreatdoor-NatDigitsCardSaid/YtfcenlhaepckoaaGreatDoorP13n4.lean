-- Printed by a program of this session (wip/tools) over the kit's print: not trusted, Lean checks it.
import Derived.Test.YtfcenlhaepckoaaGreatDoorP0n4
import Derived.Test.YtfcenlhaepckoaaGreatDoorProg
import Derived.Test.YtfcenlhaepckoaaGreatDoorElibn4
import Derived.Test.YtfcenlhaepckoaaGreatDoorSqn4
import Derived.Test.YtfcenlhaepckoaaGreatDoorP7n4
import Derived.Test.YtfcenlhaepckoaaGreatDoorP1n4
import Derived.Test.YtfcenlhaepckoaaGreatDoorP8n4
import Derived.Test.YtfcenlhaepckoaaGreatDoorP9n4
import Derived.Test.YtfcenlhaepckoaaGreatDoorLibsn4
namespace Go.Proofs.YtfcenlhaepckoaaGreatDoor.P
set_option linter.all false
open Go.RowKit Go.Proofs.YtfcenlhaepckoaaGreatDoorW.PrintWords Go.Proofs.YtfcenlhaepckoaaGreatDoorW.PrintLast Go.Proofs.YtfcenlhaepckoaaGreatDoorW.PrintMore
attribute [local go_sem] max2_int min2_int max_two min_two max_three min_three max_four min_four   -- for this text's walks alone
attribute [local go_sem] cell_after
set_option linter.unusedVariables false
set_option linter.unusedSimpArgs false

/-! ### tabardref1_Parse: function 34 -/
mutual
def tabardref1_Parse.l0 : Nat → ByteArray → Int → Option (List Int × Int)
 | 0,_,_ => none
 | k + 1,x0,x4 => if x4 < (x0.size : Int) then (if 0 ≤ x4 then (if (bt x0 x4) < 48 then (some (([] : List Int),3)) else (if (bt x0 x4) > 57 then (some (([] : List Int),3)) else (tabardref1_Parse.l0 k x0 (wrap64 (x4 + 1))))) else (none)) else (tabardref1_Parse.l1 k x0 ([] : List Int) 0)
def tabardref1_Parse.l1 : Nat → ByteArray → List Int → Int → Option (List Int × Int)
 | 0,_,_,_ => none
 | k + 1,x0,x5,x6 => if x6 < (x0.size : Int) then ((tabardref1_Times.f k x5 (([10] : List Int))).bind fun t561 => (if 0 ≤ x6 then ((tabardref1_Plus.f k t561 (([((bt x0 x6) - 48) % 256] : List Int))).bind fun t567 => ((tabardref1_Big.f k t567).bind fun t570 => (if t570 = true then (some (([] : List Int),2)) else (tabardref1_Parse.l1 k x0 t567 (wrap64 (x6 + 1)))))) else (none))) else (some (x5,0))
end
def tabardref1_Parse.f (k : Nat) (a0 : ByteArray) : Option (List Int × Int) := if a0.toList = ([] : List UInt8) then (some (([] : List Int),3)) else (tabardref1_Parse.l0 k a0 0)
def tabardref1_Parse.T12 : Bool × List (List Nat × List Nat) := (true,[([],[]),([],[]),([0,1],[0,1]),([],[]),([],[]),([3,4],[3,4]),([5],[5]),([6],[6]),([7],[7]),([2,8,2],[2,8]),([9,9,0,1,2,3,4,5,6,7,8,9],[0,9])])
def tabardref1_Parse.B12 : List Nat := [0,0,3,0,0,24,56,120,248,511,1023]
theorem tabardref1_Parse.tab12 : rtab .any (opsOf Tryz.f34 12) = tabardref1_Parse.T12 := by kernel_rfl
theorem tabardref1_Parse.bits12 : waitsOk tabardref1_Parse.T12.2 tabardref1_Parse.B12 = true := by kernel_rfl
set_option maxHeartbeats 8000000 in
set_option maxRecDepth 100000 in
theorem tabardref1_Parse.calls (k : Nat) (a0 : ByteArray) (r1 : List Int) (r2 : Int) (w : World) (h : tabardref1_Parse.f k a0 = some (r1,r2)) :
  Calls Tryz.prog 34 #[.string a0] w fun e w' => ∃ v0_ : Value,e = .returned (.tuple #[v0_,.int .i64 r2]) ∧ Kd.R (Kd.int .u32) 63 w' w.heap.size (fun _ => True) v0_ r1 ∧ Below w.heap.size w w' := by
 have HB := Aside0.mk (Below.refl w.heap.size w)
 have H : (if a0.toList = ([] : List UInt8) then (some (([] : List Int),3)) else (tabardref1_Parse.l0 k a0 0)) = some (r1,r2) := h
 clear h
 by_cases c2 : a0.toList = ([] : List UInt8)
 ·rw [if_pos c2] at H
  have c2b0 : (a0.toList == ([] : List UInt8)) = true := beq_iff_eq.mpr c2
  have c2b1 : (a0.toList != ([] : List UInt8)) = false := bne_eq_false_iff_eq.mpr c2
  clear c2
  simp only [Option.some.injEq,Prod.mk.injEq] at H
  obtain ⟨rfl,rfl⟩ := H
  go_enter Tryz.func34,Tryz.ntmps34
  go_wp2
  go_ret2
  exact ⟨_,by first | rfl | (simp [errW_none,errW_some] <;> rfl) | (simp [*,errW_none,errW_some] <;> rfl),by first | exact Kd.R_nil _ _ _ _ _ | exact Kd.N_nil _ _ _ _ _ | exact Kd.V_nil _ _ _ _ _ | exact Kd.Q_nil _ _ _ _ _ | exact Kd.S_nil _ _ _ _ _,by repeat (first | (with_reducible first | exact HB.out | apply below_alloc | apply pw_below_drewN | apply below_drew1) | exact HB.out)⟩
 ·rw [if_neg c2] at H
  have c2b0 : (a0.toList == ([] : List UInt8)) = false := beq_eq_false_iff_ne.mpr c2
  have c2b1 : (a0.toList != ([] : List UInt8)) = true := bne_iff_ne.mpr c2
  have H' := Aside0.mk H
  clear H
  go_enter Tryz.func34,Tryz.ntmps34
  go_wp2
  go_loopg [4] k (fun kq v4 w' => ∃ (x4_1 : Int),v4 = .int .i64 x4_1 ∧ Aside0 (tabardref1_Parse.l0 kq a0 x4_1 = some (r1,r2)) ∧ Aside0 (kq ≤ k) ∧ Aside0 (Below w.heap.size w w'))
  case atStart => exact ⟨(0),(by first | rfl | (simp;done) | (simp [*];done)),H',⟨Nat.le_refl _⟩,⟨by repeat (first | (with_reducible first | exact HB.out | apply below_alloc | apply pw_below_drewN | apply below_drew1) | exact HB.out)⟩⟩
  case round =>
   clear H'
   try clear c2
   try clear c2b0
   try clear c2b1
   try clear p2
   obtain ⟨x4_1,rfl,HA,HK1,HB⟩ := hrel
   cases gk with
   | zero => exact absurd HA.out (by simp [tabardref1_Parse.l0])
   | succ k1 =>
    have H := HA.out
    clear HA
    simp only [tabardref1_Parse.l0] at H
    by_cases c3 : x4_1 < (a0.size : Int)
    ·rw [if_pos c3] at H
     have c3b0 : decide (x4_1 < (a0.size : Int)) = true := decide_eq_true c3
     clear c3
     by_cases c4 : 0 ≤ x4_1
     ·rw [if_pos c4] at H
      have c4b0 : decide (0 ≤ x4_1) = true := decide_eq_true c4
      clear c4
      by_cases c6 : (bt a0 x4_1) < 48
      ·rw [if_pos c6] at H
       have c6b0 : decide ((bt a0 x4_1) < 48) = true := decide_eq_true c6
       clear c6
       simp only [Option.some.injEq,Prod.mk.injEq] at H
       obtain ⟨rfl,rfl⟩ := H
       have p5 : 0 ≤ (x4_1 : Int) := od_
       have q5 : x4_1 < (a0.size : Int) := od_
       have hx5 := bt_at a0 x4_1
       replace p5 := eq_true p5
       replace q5 := eq_true q5
       go_wp2
       go_ret2
       exact ⟨_,by first | rfl | (simp [errW_none,errW_some] <;> rfl) | (simp [*,errW_none,errW_some] <;> rfl),by first | exact Kd.R_nil _ _ _ _ _ | exact Kd.N_nil _ _ _ _ _ | exact Kd.V_nil _ _ _ _ _ | exact Kd.Q_nil _ _ _ _ _ | exact Kd.S_nil _ _ _ _ _,by repeat (first | (with_reducible first | exact HB.out | apply below_alloc | apply pw_below_drewN | apply below_drew1) | exact HB.out)⟩
      ·rw [if_neg c6] at H
       have c6b0 : decide ((bt a0 x4_1) < 48) = false := decide_eq_false c6
       clear c6
       by_cases c8 : (bt a0 x4_1) > 57
       ·rw [if_pos c8] at H
        have c8b0 : decide (57 < (bt a0 x4_1)) = true := decide_eq_true c8
        clear c8
        simp only [Option.some.injEq,Prod.mk.injEq] at H
        obtain ⟨rfl,rfl⟩ := H
        have p5 : 0 ≤ (x4_1 : Int) := od_
        have q5 : x4_1 < (a0.size : Int) := od_
        have hx5 := bt_at a0 x4_1
        replace p5 := eq_true p5
        replace q5 := eq_true q5
        have p7 : 0 ≤ (x4_1 : Int) := od_
        have q7 : x4_1 < (a0.size : Int) := od_
        have hx7 := bt_at a0 x4_1
        replace p7 := eq_true p7
        replace q7 := eq_true q7
        go_wp2
        go_ret2
        exact ⟨_,by first | rfl | (simp [errW_none,errW_some] <;> rfl) | (simp [*,errW_none,errW_some] <;> rfl),by first | exact Kd.R_nil _ _ _ _ _ | exact Kd.N_nil _ _ _ _ _ | exact Kd.V_nil _ _ _ _ _ | exact Kd.Q_nil _ _ _ _ _ | exact Kd.S_nil _ _ _ _ _,by repeat (first | (with_reducible first | exact HB.out | apply below_alloc | apply pw_below_drewN | apply below_drew1) | exact HB.out)⟩
       ·rw [if_neg c8] at H
        have c8b0 : decide (57 < (bt a0 x4_1)) = false := decide_eq_false c8
        clear c8
        have H' := Aside0.mk H
        clear H
        have p5 : 0 ≤ (x4_1 : Int) := od_
        have q5 : x4_1 < (a0.size : Int) := od_
        have hx5 := bt_at a0 x4_1
        replace p5 := eq_true p5
        replace q5 := eq_true q5
        have p7 : 0 ≤ (x4_1 : Int) := od_
        have q7 : x4_1 < (a0.size : Int) := od_
        have hx7 := bt_at a0 x4_1
        replace p7 := eq_true p7
        replace q7 := eq_true q7
        go_wp2
        go_roundg k1
        case measure => have := HK1.out;omega
        case rel => exact ⟨(wrap64 (x4_1 + 1)),(by first | rfl | (simp;done) | (simp [*];done)),H',⟨by have := HK1.out;omega⟩,⟨by repeat (first | (with_reducible first | exact HB.out | apply below_alloc | apply pw_below_drewN | apply below_drew1) | exact HB.out)⟩⟩
     ·rw [if_neg c4] at H
      exact absurd H (by simp)
    ·rw [if_neg c3] at H
     have c3b0 : decide (x4_1 < (a0.size : Int)) = false := decide_eq_false c3
     clear c3
     have H' := Aside0.mk H
     clear H
     go_wp2
     go_loopg [5,6] k1 (fun kq v5 v6 w' => ∃ (x5_2 : List Int) (x6_2 : Int),v6 = .int .i64 x6_2 ∧ Aside0 (tabardref1_Parse.l1 kq a0 x5_2 x6_2 = some (r1,r2)) ∧ Aside0 (kq ≤ k1) ∧ Aside0 (Kd.R (Kd.int .u32) 63 w' w.heap.size (fun _ => True) v5 x5_2) ∧ Aside0 (Below w.heap.size w w'))
     case atStart => exact ⟨(([] : List Int)),(0),(by first | rfl | (simp;done) | (simp [*];done)),H',⟨Nat.le_refl _⟩,⟨by first | exact Kd.R_nil _ _ _ _ _ | exact Kd.N_nil _ _ _ _ _ | exact Kd.V_nil _ _ _ _ _ | exact Kd.Q_nil _ _ _ _ _ | exact Kd.S_nil _ _ _ _ _⟩,⟨by repeat (first | (with_reducible first | exact HB.out | apply below_alloc | apply pw_below_drewN | apply below_drew1) | exact HB.out)⟩⟩
     case round =>
      clear H'
      try clear c2
      try clear c2b0
      try clear c2b1
      try clear p2
      try clear c3
      try clear c3b0
      try clear c4
      try clear c4b0
      try clear p5
      try clear q5
      try clear hx5
      try clear c6
      try clear c6b0
      try clear p6
      try clear p7
      try clear q7
      try clear hx7
      try clear c8
      try clear c8b0
      try clear p2
      try clear p5
      try clear p7
      try clear q5
      try clear q7
      obtain ⟨x5_2,x6_2,rfl,HA,HK2,HO_5,HB⟩ := hrel
      cases gk with
      | zero => exact absurd HA.out (by simp [tabardref1_Parse.l1])
      | succ k2 =>
       have H := HA.out
       clear HA
       simp only [tabardref1_Parse.l1] at H
       by_cases c9 : x6_2 < (a0.size : Int)
       ·rw [if_pos c9] at H
        have c9b0 : decide (x6_2 < (a0.size : Int)) = true := decide_eq_true c9
        clear c9
        obtain ⟨y558,hy558⟩ : ∃ y_ : List Int,y_ = (([10] : List Int)) := ⟨_,rfl⟩
        replace H : ((tabardref1_Times.f k2 x5_2 y558).bind fun t561 => (if 0 ≤ x6_2 then ((tabardref1_Plus.f k2 t561 (([((bt a0 x6_2) - 48) % 256] : List Int))).bind fun t567 => ((tabardref1_Big.f k2 t567).bind fun t570 => (if t570 = true then (some (([] : List Int),2)) else (tabardref1_Parse.l1 k2 a0 t567 (wrap64 (x6_2 + 1)))))) else (none))) = some (r1,r2) := by first | (rw [hy558];with_reducible exact H) | (have H2_ := (Option.bind_some _ _).symm.trans H;rw [hy558];with_reducible exact H2_) | (have H2_ := (Option.bind_some _ _).symm.trans H;with_reducible exact H2_) | with_reducible exact H | (rw [hy558];exact H) | exact H
        have Ny558 := Aside0.mk hy558
        clear hy558
        replace H := Option.bind_eq_some_iff.mp H
        obtain ⟨t561,A100,H⟩ := H
        replace H : (if 0 ≤ x6_2 then ((tabardref1_Plus.f k2 t561 (([((bt a0 x6_2) - 48) % 256] : List Int))).bind fun t567 => ((tabardref1_Big.f k2 t567).bind fun t570 => (if t570 = true then (some (([] : List Int),2)) else (tabardref1_Parse.l1 k2 a0 t567 (wrap64 (x6_2 + 1)))))) else (none)) = some (r1,r2) := H
        have A10 := Aside0.mk A100
        clear A100
        by_cases c11 : 0 ≤ x6_2
        ·rw [if_pos c11] at H
         have c11b0 : decide (0 ≤ x6_2) = true := decide_eq_true c11
         clear c11
         obtain ⟨y564,hy564⟩ : ∃ y_ : List Int,y_ = (([((bt a0 x6_2) - 48) % 256] : List Int)) := ⟨_,rfl⟩
         replace H : ((tabardref1_Plus.f k2 t561 y564).bind fun t567 => ((tabardref1_Big.f k2 t567).bind fun t570 => (if t570 = true then (some (([] : List Int),2)) else (tabardref1_Parse.l1 k2 a0 t567 (wrap64 (x6_2 + 1)))))) = some (r1,r2) := by first | (rw [hy564];with_reducible exact H) | (have H2_ := (Option.bind_some _ _).symm.trans H;rw [hy564];with_reducible exact H2_) | (have H2_ := (Option.bind_some _ _).symm.trans H;with_reducible exact H2_) | with_reducible exact H | (rw [hy564];exact H) | exact H
         have Ny564 := Aside0.mk hy564
         clear hy564
         replace H := Option.bind_eq_some_iff.mp H
         obtain ⟨t567,A130,H⟩ := H
         replace H : ((tabardref1_Big.f k2 t567).bind fun t570 => (if t570 = true then (some (([] : List Int),2)) else (tabardref1_Parse.l1 k2 a0 t567 (wrap64 (x6_2 + 1))))) = some (r1,r2) := H
         have A13 := Aside0.mk A130
         clear A130
         replace H := Option.bind_eq_some_iff.mp H
         obtain ⟨t570,A140,H⟩ := H
         replace H : (if t570 = true then (some (([] : List Int),2)) else (tabardref1_Parse.l1 k2 a0 t567 (wrap64 (x6_2 + 1)))) = some (r1,r2) := H
         have A14 := Aside0.mk A140
         clear A140
         by_cases c15 : t570 = true
         ·subst c15
          have H1 : (some (([] : List Int),2)) = some (r1,r2) := by rw [if_pos rfl] at H;exact H
          clear H
          have H := H1
          clear H1
          simp only [Option.some.injEq,Prod.mk.injEq] at H
          obtain ⟨rfl,rfl⟩ := H
          obtain ⟨Ao16,co16,eo16⟩ := Kd.R_slice HO_5.out
          subst eo16
          try go_wp2
          have n0_ := Aside0.mk (Kd.R_drew HO_5.out)
          have n1_ := Aside0.mk (below_drew1 HB.out)
          clear HO_5
          clear HB
          have HO_5 := n0_
          have HB := n1_
          clear n0_ n1_
          have p12 : 0 ≤ (x6_2 : Int) := od_
          have q12 : x6_2 < (a0.size : Int) := od_
          have hx12 := bt_at a0 x6_2
          replace p12 := eq_true p12
          replace q12 := eq_true q12
          refine start_ (n := 11) (S := fun w' => True) (ds := []) #[false,false,false,false,false,false,false,false,false,false,false] (by kernel_rfl) rfl rfl trivial (fun hHeld => ?_);refine with_tabW tabardref1_Parse.tab12 tabardref1_Parse.bits12 (fun HT_ HW_ => ?_)
          generalize wr.drew = w17 at HO_5 HB hHeld ⊢
          refine pure_ (i := 0) (N := some 31) (v := ?_) (a' := ?_) #[true,false,false,false,false,false,false,false,false,false,false] rfl rfl (any_of HT_.out (by kernel_rfl)) (fun _ _ _ h => h) (Or.inl ⟨by rfl,?_⟩) ?_ ?_
          rotate_left
          ·intro w'
           go_simp
           with_reducible rfl
          rotate_left
          ·simp only [Act.put,List.setIfInBounds_toArray,List.set_cons_zero,List.set_cons_succ,i64_w,i32_w]
           rfl
          refine pure_ (i := 3) (N := some 34) (v := ?_) (a' := ?_) #[true,false,false,true,false,false,false,false,false,false,false] rfl rfl (any_of HT_.out (by kernel_rfl)) (fun _ _ _ h => h) (Or.inl ⟨by rfl,?_⟩) ?_ ?_
          rotate_left
          ·intro w'
           go_simp
           with_reducible rfl
          rotate_left
          ·simp only [Act.put,List.setIfInBounds_toArray,List.set_cons_zero,List.set_cons_succ,i64_w,i32_w]
           rfl
          refine pure_ (i := 4) (N := some 35) (v := ?_) (a' := ?_) #[true,false,false,true,true,false,false,false,false,false,false] rfl rfl (any_of HT_.out (by kernel_rfl)) (fun _ _ _ h => h) (Or.inl ⟨by rfl,?_⟩) ?_ ?_
          rotate_left
          ·intro w'
           go_simp
           with_reducible rfl
          rotate_left
          ·simp only [Act.put,List.setIfInBounds_toArray,List.set_cons_zero,List.set_cons_succ,i64_w,i32_w]
           rfl
          refine take_ (i := 5) (N := some 36) (v := ?_) (a' := ?_) #[true,false,false,true,true,true,false,false,false,false,false] rfl rfl (take_ofW HT_.out HW_.out (by kernel_rfl)) (fun _ _ _ h => h) (Or.inl ⟨by rfl,?_⟩) hHeld ?_ ?_
          rotate_left
          ·intro w' _
           go_simp
           with_reducible rfl
          rotate_left
          ·simp only [Act.put,List.setIfInBounds_toArray,List.set_cons_zero,List.set_cons_succ,i64_w,i32_w]
           rfl
          refine pure_ (i := 6) (N := some 37) (v := ?_) (a' := ?_) #[true,false,false,true,true,true,true,false,false,false,false] rfl rfl (any_of HT_.out (by kernel_rfl)) (fun _ _ _ h => h) (Or.inl ⟨by rfl,?_⟩) ?_ ?_
          rotate_left
          ·intro w'
           go_simp
           with_reducible rfl
          rotate_left
          ·simp only [Act.put,List.setIfInBounds_toArray,List.set_cons_zero,List.set_cons_succ,i64_w,i32_w]
           rfl
          refine pure_ (i := 7) (N := some 38) (v := ?_) (a' := ?_) #[true,false,false,true,true,true,true,true,false,false,false] rfl rfl (any_of HT_.out (by kernel_rfl)) (fun _ _ _ h => h) (Or.inl ⟨by rfl,?_⟩) ?_ ?_
          rotate_left
          ·intro w'
           go_simp
           with_reducible rfl
          rotate_left
          ·simp only [Act.put,List.setIfInBounds_toArray,List.set_cons_zero,List.set_cons_succ,i64_w,i32_w]
           rfl
          refine join_ (σ := Value × Value × Value) 2 #[true,true,true,true,true,true,true,true,true,false,false] (fun s_ => [(32,s_.1),(33,s_.2.1),(39,s_.2.2)]) (fun s_ w' => (Kd.R (Kd.int .u32) 63 w' w.heap.size (fun k_ => some k_ ≠ (s_.2.1 : Value).ownBlock ∧ some k_ ≠ (s_.2.2 : Value).ownBlock ∧ some k_ ≠ (.slice Ao16 x5_2.length co16 : Value).ownBlock) s_.1 y558) ∧ (Kd.R (Kd.int .u32) 63 w' w.heap.size (fun k_ => some k_ ≠ (s_.1 : Value).ownBlock ∧ some k_ ≠ (s_.2.2 : Value).ownBlock ∧ some k_ ≠ (.slice Ao16 x5_2.length co16 : Value).ownBlock) s_.2.1 t561) ∧ (Kd.R (Kd.int .u32) 63 w' w.heap.size (fun k_ => some k_ ≠ (s_.1 : Value).ownBlock ∧ some k_ ≠ (s_.2.1 : Value).ownBlock ∧ some k_ ≠ (.slice Ao16 x5_2.length co16 : Value).ownBlock) s_.2.2 y564) ∧ (Kd.R (Kd.int .u32) 63 w' w.heap.size (fun k_ => some k_ ≠ (s_.1 : Value).ownBlock ∧ some k_ ≠ (s_.2.1 : Value).ownBlock ∧ some k_ ≠ (s_.2.2 : Value).ownBlock) (.slice Ao16 x5_2.length co16) x5_2) ∧ (Below w.heap.size w w')) ?_ ?_
          rotate_left
          ·intro hCont
           refine two_ (i := 1) (j := 8) (Ni := some 32) (Nj := some 39) #[true,true,false,true,true,true,true,true,false,false,false] #[true,false,false,true,true,true,true,true,true,false,false] rfl rfl rfl rfl (two_of HT_.out (by kernel_rfl)) (by decide) (by decide) (fun K hK => ?_) (fun K hK => ?_)
           ·skip
            refine Kd.R_lit_step (Kd.int .u32) _ 63 ?hg (N := 32) ?hd (xs := ([10] : List Int)) (inner := [.int .u32 10]) (ok := fun _ => True) (okp := fun _ => True) ?hr ?hp (fun _ hk => hk) trivial (Below.refl _ _) (Nat.le_refl _) (by simp) ?_;(case hd => rfl);(case hg => rfl);(case hr => first | (go_simp;done) | (go_simp;rfl) | (go_simp;rw [u32_u8]));(case hp => exact (Reps.one (show Kd.M (Kd.int .u32) _ _ _ 10 [.int .u32 10] from rfl) (Reps.none _ _)))
            intro v559 w18 ho19 hb hg_ hnew_
            clear hg_ hnew_
            (first | rw [← Ny558.out] at ho19 | (simp only [Int.reduceToNat] at ho19;rw [← Ny558.out] at ho19))
            have n0_ := Aside0.mk (Kd.R_elder' (ra_ HO_5.out) (Kd.R_base ho19) hb)
            have n1_ := Aside0.mk (Kd.R_lower (Kd.R_new' ho19 (Kd.R_lt (ra_ HO_5.out))) (below_size bl_))
            have n2_ := Aside0.mk (below_step bl_ hb)
            clear HO_5
            clear HB
            have HO_5 := n0_
            have HO560 := n1_
            have HB := n2_
            clear n0_ n1_ n2_
            clear hb ho19
            obtain ⟨Ao20,co20,eo20⟩ := Kd.R_slice HO560.out
            (first | subst eo20 | (injection eo20 with f1_ f2_ f3_;have f4_ := f1_.symm;have f5_ := f3_.symm;clear f1_ f2_ f3_;subst f4_;subst f5_))
            refine hK.out _ _ trivial (fun hHeld => ?_)
            clear hK K
            refine norm_ (a' := ?_) ?_ ?_
            rotate_left
            ·show Act.put _ (some 32) _ = _
             simp only [Act.put,List.setIfInBounds_toArray,List.set_cons_zero,List.set_cons_succ,i64_w,i32_w]
             rfl
            refine two_ (i := 2) (j := 8) (Ni := some 33) (Nj := some 39) #[true,true,true,true,true,true,true,true,false,false,false] #[true,true,false,true,true,true,true,true,true,false,false] rfl rfl rfl rfl (two_of HT_.out (by kernel_rfl)) (by decide) (by decide) (fun K hK => ?_) (fun K hK => ?_)
            ·skip
             refine goes_ Tryz.func48 (by kernel_rfl) rfl #[.slice Ao16 x5_2.length co16,.slice Ao20 y558.length co20] (by rfl) rfl rfl am_ ?_
             with_reducible refine (tabardref1_Times.calls k2 _ _ x5_2 _ _ y558 t561 _ ?side1 ?side2 ?side3 ?side4 A10.out).mono ?_
             (case side1 => exact ca_ (Kd.R_reads' HO_5.out).2.2)
             (case side2 => exact (Kd.R_reads' HO_5.out).2.1)
             (case side3 => exact ca_ (Kd.R_reads' HO560.out).2.2)
             (case side4 => exact (Kd.R_reads' HO560.out).2.1)
             rintro e w21 ⟨v562,rfl,ho0,hb⟩
             refine ⟨_,rfl,?_⟩
             have n0_ := Aside0.mk (Kd.R_elder' (ra_ HO_5.out) (Kd.R_base ho0) hb)
             have n1_ := Aside0.mk (Kd.R_elder' (ra_ HO560.out) (Kd.R_base ho0) hb)
             have n2_ := Aside0.mk (Kd.R_lower (Kd.R_new' (Kd.R_new' ho0 (Kd.R_lt (ra_ HO_5.out))) (Kd.R_lt (ra_ HO560.out))) (below_size bl_))
             have n3_ := Aside0.mk (below_step bl_ hb)
             clear HO_5
             clear HO560
             clear HB
             have HO_5 := n0_
             have HO560 := n1_
             have HO563 := n2_
             have HB := n3_
             clear n0_ n1_ n2_ n3_
             (try clear hb)
             (try clear hb2)
             (try clear hk)
             (try clear hi)
             (try clear ho0)
             refine hK.out _ _ trivial (fun hHeld => ?_)
             clear hK K
             refine norm_ (a' := ?_) ?_ ?_
             rotate_left
             ·show Act.put _ (some 33) _ = _
              simp only [Act.put,List.setIfInBounds_toArray,List.set_cons_zero,List.set_cons_succ,i64_w,i32_w]
              rfl
             refine one_ (i := 8) (N := some 39) #[true,true,true,true,true,true,true,true,true,false,false] rfl rfl (one_of HT_.out (by kernel_rfl)) (by decide) (fun K hK => ?_)
             refine Kd.R_lit_step (Kd.int .u32) _ 63 ?hg (N := 39) ?hd (xs := ([((bt a0 x6_2) - 48) % 256] : List Int)) (inner := [.int .u32 (((bt a0 x6_2) - 48) % 256)]) (ok := fun _ => True) (okp := fun _ => True) ?hr ?hp (fun _ hk => hk) trivial (Below.refl _ _) (Nat.le_refl _) (by simp) ?_;(case hd => rfl);(case hg => rfl);(case hr => first | (go_simp;done) | (go_simp;rfl) | (go_simp;rw [u32_u8]));(case hp => exact (Reps.one (show Kd.M (Kd.int .u32) _ _ _ (((bt a0 x6_2) - 48) % 256) [.int .u32 (((bt a0 x6_2) - 48) % 256)] from rfl) (Reps.none _ _)))
             intro v565 w22 ho23 hb hg_ hnew_
             clear hg_ hnew_
             (first | rw [← Ny564.out] at ho23 | (simp only [Int.reduceToNat] at ho23;rw [← Ny564.out] at ho23))
             have n0_ := Aside0.mk (Kd.R_elder' (ra_ HO_5.out) (Kd.R_base ho23) hb)
             have n1_ := Aside0.mk (Kd.R_elder' (ra_ HO560.out) (Kd.R_base ho23) hb)
             have n2_ := Aside0.mk (Kd.R_elder' (ra_ HO563.out) (Kd.R_base ho23) hb)
             have n3_ := Aside0.mk (Kd.R_lower (Kd.R_new' (Kd.R_new' (Kd.R_new' ho23 (Kd.R_lt (ra_ HO_5.out))) (Kd.R_lt (ra_ HO560.out))) (Kd.R_lt (ra_ HO563.out))) (below_size bl_))
             have n4_ := Aside0.mk (below_step bl_ hb)
             clear HO_5
             clear HO560
             clear HO563
             clear HB
             have HO_5 := n0_
             have HO560 := n1_
             have HO563 := n2_
             have HO566 := n3_
             have HB := n4_
             clear n0_ n1_ n2_ n3_ n4_
             clear hb ho23
             refine hK.out _ _ trivial (fun hHeld => ?_)
             clear hK K
             refine norm_ (a' := ?_) ?_ ?_
             rotate_left
             ·show Act.put _ (some 39) _ = _
              simp only [Act.put,List.setIfInBounds_toArray,List.set_cons_zero,List.set_cons_succ,i64_w,i32_w]
              rfl
             exact norm_ (by simp only [putAll,Act.put,List.setIfInBounds_toArray,List.set_cons_zero,List.set_cons_succ]) (hCont (.slice Ao20 y558.length co20,v562,v565) _ ⟨(by (with_reducible repeat (first | apply Kd.R_alloc | apply Kd.R_drewN | apply Kd.R_drew));exact Kd.R_mono HO560.out (fun _ hk => ⟨hk.1.2,⟨hk.2,hk.1.1.2⟩⟩)),(by (with_reducible repeat (first | apply Kd.R_alloc | apply Kd.R_drewN | apply Kd.R_drew));exact Kd.R_mono HO563.out (fun _ hk => ⟨hk.1.2,⟨hk.2,hk.1.1.2⟩⟩)),(by (with_reducible repeat (first | apply Kd.R_alloc | apply Kd.R_drewN | apply Kd.R_drew));exact Kd.R_mono HO566.out (fun _ hk => ⟨hk.1.2,⟨hk.2,hk.1.1.2⟩⟩)),(by (with_reducible repeat (first | apply Kd.R_alloc | apply Kd.R_drewN | apply Kd.R_drew));exact Kd.R_mono HO_5.out (fun _ hk => ⟨hk.1.1.2,⟨hk.1.2,hk.2⟩⟩)),bl_⟩)
            ·skip
             refine Kd.R_lit_step (Kd.int .u32) _ 63 ?hg (N := 39) ?hd (xs := ([((bt a0 x6_2) - 48) % 256] : List Int)) (inner := [.int .u32 (((bt a0 x6_2) - 48) % 256)]) (ok := fun _ => True) (okp := fun _ => True) ?hr ?hp (fun _ hk => hk) trivial (Below.refl _ _) (Nat.le_refl _) (by simp) ?_;(case hd => rfl);(case hg => rfl);(case hr => first | (go_simp;done) | (go_simp;rfl) | (go_simp;rw [u32_u8]));(case hp => exact (Reps.one (show Kd.M (Kd.int .u32) _ _ _ (((bt a0 x6_2) - 48) % 256) [.int .u32 (((bt a0 x6_2) - 48) % 256)] from rfl) (Reps.none _ _)))
             intro v565 w20 ho21 hb hg_ hnew_
             clear hg_ hnew_
             (first | rw [← Ny564.out] at ho21 | (simp only [Int.reduceToNat] at ho21;rw [← Ny564.out] at ho21))
             have n0_ := Aside0.mk (Kd.R_elder' (ra_ HO_5.out) (Kd.R_base ho21) hb)
             have n1_ := Aside0.mk (Kd.R_elder' (ra_ HO560.out) (Kd.R_base ho21) hb)
             have n2_ := Aside0.mk (Kd.R_lower (Kd.R_new' (Kd.R_new' ho21 (Kd.R_lt (ra_ HO_5.out))) (Kd.R_lt (ra_ HO560.out))) (below_size bl_))
             have n3_ := Aside0.mk (below_step bl_ hb)
             clear HO_5
             clear HO560
             clear HB
             have HO_5 := n0_
             have HO560 := n1_
             have HO566 := n2_
             have HB := n3_
             clear n0_ n1_ n2_ n3_
             clear hb ho21
             obtain ⟨Ao22,co22,eo22⟩ := Kd.R_slice HO560.out
             (first | subst eo22 | (injection eo22 with f1_ f2_ f3_;have f4_ := f1_.symm;have f5_ := f3_.symm;clear f1_ f2_ f3_;subst f4_;subst f5_))
             refine hK.out _ _ trivial (fun hHeld => ?_)
             clear hK K
             refine norm_ (a' := ?_) ?_ ?_
             rotate_left
             ·show Act.put _ (some 39) _ = _
              simp only [Act.put,List.setIfInBounds_toArray,List.set_cons_zero,List.set_cons_succ,i64_w,i32_w]
              rfl
             refine one_ (i := 2) (N := some 33) #[true,true,true,true,true,true,true,true,true,false,false] rfl rfl (one_of HT_.out (by kernel_rfl)) (by decide) (fun K hK => ?_)
             refine goes_ Tryz.func48 (by kernel_rfl) rfl #[.slice Ao16 x5_2.length co16,.slice Ao22 y558.length co22] (by rfl) rfl rfl am_ ?_
             with_reducible refine (tabardref1_Times.calls k2 _ _ x5_2 _ _ y558 t561 _ ?side1 ?side2 ?side3 ?side4 A10.out).mono ?_
             (case side1 => exact ca_ (Kd.R_reads' HO_5.out).2.2)
             (case side2 => exact (Kd.R_reads' HO_5.out).2.1)
             (case side3 => exact ca_ (Kd.R_reads' HO560.out).2.2)
             (case side4 => exact (Kd.R_reads' HO560.out).2.1)
             rintro e w23 ⟨v562,rfl,ho0,hb⟩
             refine ⟨_,rfl,?_⟩
             have n0_ := Aside0.mk (Kd.R_elder' (ra_ HO_5.out) (Kd.R_base ho0) hb)
             have n1_ := Aside0.mk (Kd.R_elder' (ra_ HO560.out) (Kd.R_base ho0) hb)
             have n2_ := Aside0.mk (Kd.R_elder' (ra_ HO566.out) (Kd.R_base ho0) hb)
             have n3_ := Aside0.mk (Kd.R_lower (Kd.R_new' (Kd.R_new' (Kd.R_new' ho0 (Kd.R_lt (ra_ HO_5.out))) (Kd.R_lt (ra_ HO560.out))) (Kd.R_lt (ra_ HO566.out))) (below_size bl_))
             have n4_ := Aside0.mk (below_step bl_ hb)
             clear HO_5
             clear HO560
             clear HO566
             clear HB
             have HO_5 := n0_
             have HO560 := n1_
             have HO566 := n2_
             have HO563 := n3_
             have HB := n4_
             clear n0_ n1_ n2_ n3_ n4_
             (try clear hb)
             (try clear hb2)
             (try clear hk)
             (try clear hi)
             (try clear ho0)
             refine hK.out _ _ trivial (fun hHeld => ?_)
             clear hK K
             refine norm_ (a' := ?_) ?_ ?_
             rotate_left
             ·show Act.put _ (some 33) _ = _
              simp only [Act.put,List.setIfInBounds_toArray,List.set_cons_zero,List.set_cons_succ,i64_w,i32_w]
              rfl
             exact norm_ (by simp only [putAll,Act.put,List.setIfInBounds_toArray,List.set_cons_zero,List.set_cons_succ]) (hCont (.slice Ao22 y558.length co22,v562,v565) _ ⟨(by (with_reducible repeat (first | apply Kd.R_alloc | apply Kd.R_drewN | apply Kd.R_drew));exact Kd.R_mono HO560.out (fun _ hk => ⟨hk.2,⟨hk.1.2,hk.1.1.2⟩⟩)),(by (with_reducible repeat (first | apply Kd.R_alloc | apply Kd.R_drewN | apply Kd.R_drew));exact Kd.R_mono HO563.out (fun _ hk => ⟨hk.1.2,⟨hk.2,hk.1.1.2⟩⟩)),(by (with_reducible repeat (first | apply Kd.R_alloc | apply Kd.R_drewN | apply Kd.R_drew));exact Kd.R_mono HO566.out (fun _ hk => ⟨hk.1.2,⟨hk.2,hk.1.1.2⟩⟩)),(by (with_reducible repeat (first | apply Kd.R_alloc | apply Kd.R_drewN | apply Kd.R_drew));exact Kd.R_mono HO_5.out (fun _ hk => ⟨hk.1.1.2,⟨hk.2,hk.1.2⟩⟩)),bl_⟩)
           ·skip
            refine Kd.R_lit_step (Kd.int .u32) _ 63 ?hg (N := 39) ?hd (xs := ([((bt a0 x6_2) - 48) % 256] : List Int)) (inner := [.int .u32 (((bt a0 x6_2) - 48) % 256)]) (ok := fun _ => True) (okp := fun _ => True) ?hr ?hp (fun _ hk => hk) trivial (Below.refl _ _) (Nat.le_refl _) (by simp) ?_;(case hd => rfl);(case hg => rfl);(case hr => first | (go_simp;done) | (go_simp;rfl) | (go_simp;rw [u32_u8]));(case hp => exact (Reps.one (show Kd.M (Kd.int .u32) _ _ _ (((bt a0 x6_2) - 48) % 256) [.int .u32 (((bt a0 x6_2) - 48) % 256)] from rfl) (Reps.none _ _)))
            intro v565 w18 ho19 hb hg_ hnew_
            clear hg_ hnew_
            (first | rw [← Ny564.out] at ho19 | (simp only [Int.reduceToNat] at ho19;rw [← Ny564.out] at ho19))
            have n0_ := Aside0.mk (Kd.R_elder' (ra_ HO_5.out) (Kd.R_base ho19) hb)
            have n1_ := Aside0.mk (Kd.R_lower (Kd.R_new' ho19 (Kd.R_lt (ra_ HO_5.out))) (below_size bl_))
            have n2_ := Aside0.mk (below_step bl_ hb)
            clear HO_5
            clear HB
            have HO_5 := n0_
            have HO566 := n1_
            have HB := n2_
            clear n0_ n1_ n2_
            clear hb ho19
            refine hK.out _ _ trivial (fun hHeld => ?_)
            clear hK K
            refine norm_ (a' := ?_) ?_ ?_
            rotate_left
            ·show Act.put _ (some 39) _ = _
             simp only [Act.put,List.setIfInBounds_toArray,List.set_cons_zero,List.set_cons_succ,i64_w,i32_w]
             rfl
            refine one_ (i := 1) (N := some 32) #[true,true,false,true,true,true,true,true,true,false,false] rfl rfl (one_of HT_.out (by kernel_rfl)) (by decide) (fun K hK => ?_)
            refine Kd.R_lit_step (Kd.int .u32) _ 63 ?hg (N := 32) ?hd (xs := ([10] : List Int)) (inner := [.int .u32 10]) (ok := fun _ => True) (okp := fun _ => True) ?hr ?hp (fun _ hk => hk) trivial (Below.refl _ _) (Nat.le_refl _) (by simp) ?_;(case hd => rfl);(case hg => rfl);(case hr => first | (go_simp;done) | (go_simp;rfl) | (go_simp;rw [u32_u8]));(case hp => exact (Reps.one (show Kd.M (Kd.int .u32) _ _ _ 10 [.int .u32 10] from rfl) (Reps.none _ _)))
            intro v559 w20 ho21 hb hg_ hnew_
            clear hg_ hnew_
            (first | rw [← Ny558.out] at ho21 | (simp only [Int.reduceToNat] at ho21;rw [← Ny558.out] at ho21))
            have n0_ := Aside0.mk (Kd.R_elder' (ra_ HO_5.out) (Kd.R_base ho21) hb)
            have n1_ := Aside0.mk (Kd.R_elder' (ra_ HO566.out) (Kd.R_base ho21) hb)
            have n2_ := Aside0.mk (Kd.R_lower (Kd.R_new' (Kd.R_new' ho21 (Kd.R_lt (ra_ HO_5.out))) (Kd.R_lt (ra_ HO566.out))) (below_size bl_))
            have n3_ := Aside0.mk (below_step bl_ hb)
            clear HO_5
            clear HO566
            clear HB
            have HO_5 := n0_
            have HO566 := n1_
            have HO560 := n2_
            have HB := n3_
            clear n0_ n1_ n2_ n3_
            clear hb ho21
            obtain ⟨Ao22,co22,eo22⟩ := Kd.R_slice HO560.out
            (first | subst eo22 | (injection eo22 with f1_ f2_ f3_;have f4_ := f1_.symm;have f5_ := f3_.symm;clear f1_ f2_ f3_;subst f4_;subst f5_))
            refine hK.out _ _ trivial (fun hHeld => ?_)
            clear hK K
            refine norm_ (a' := ?_) ?_ ?_
            rotate_left
            ·show Act.put _ (some 32) _ = _
             simp only [Act.put,List.setIfInBounds_toArray,List.set_cons_zero,List.set_cons_succ,i64_w,i32_w]
             rfl
            refine one_ (i := 2) (N := some 33) #[true,true,true,true,true,true,true,true,true,false,false] rfl rfl (one_of HT_.out (by kernel_rfl)) (by decide) (fun K hK => ?_)
            refine goes_ Tryz.func48 (by kernel_rfl) rfl #[.slice Ao16 x5_2.length co16,.slice Ao22 y558.length co22] (by rfl) rfl rfl am_ ?_
            with_reducible refine (tabardref1_Times.calls k2 _ _ x5_2 _ _ y558 t561 _ ?side1 ?side2 ?side3 ?side4 A10.out).mono ?_
            (case side1 => exact ca_ (Kd.R_reads' HO_5.out).2.2)
            (case side2 => exact (Kd.R_reads' HO_5.out).2.1)
            (case side3 => exact ca_ (Kd.R_reads' HO560.out).2.2)
            (case side4 => exact (Kd.R_reads' HO560.out).2.1)
            rintro e w23 ⟨v562,rfl,ho0,hb⟩
            refine ⟨_,rfl,?_⟩
            have n0_ := Aside0.mk (Kd.R_elder' (ra_ HO_5.out) (Kd.R_base ho0) hb)
            have n1_ := Aside0.mk (Kd.R_elder' (ra_ HO566.out) (Kd.R_base ho0) hb)
            have n2_ := Aside0.mk (Kd.R_elder' (ra_ HO560.out) (Kd.R_base ho0) hb)
            have n3_ := Aside0.mk (Kd.R_lower (Kd.R_new' (Kd.R_new' (Kd.R_new' ho0 (Kd.R_lt (ra_ HO_5.out))) (Kd.R_lt (ra_ HO566.out))) (Kd.R_lt (ra_ HO560.out))) (below_size bl_))
            have n4_ := Aside0.mk (below_step bl_ hb)
            clear HO_5
            clear HO566
            clear HO560
            clear HB
            have HO_5 := n0_
            have HO566 := n1_
            have HO560 := n2_
            have HO563 := n3_
            have HB := n4_
            clear n0_ n1_ n2_ n3_ n4_
            (try clear hb)
            (try clear hb2)
            (try clear hk)
            (try clear hi)
            (try clear ho0)
            refine hK.out _ _ trivial (fun hHeld => ?_)
            clear hK K
            refine norm_ (a' := ?_) ?_ ?_
            rotate_left
            ·show Act.put _ (some 33) _ = _
             simp only [Act.put,List.setIfInBounds_toArray,List.set_cons_zero,List.set_cons_succ,i64_w,i32_w]
             rfl
            exact norm_ (by simp only [putAll,Act.put,List.setIfInBounds_toArray,List.set_cons_zero,List.set_cons_succ]) (hCont (.slice Ao22 y558.length co22,v562,v565) _ ⟨(by (with_reducible repeat (first | apply Kd.R_alloc | apply Kd.R_drewN | apply Kd.R_drew));exact Kd.R_mono HO560.out (fun _ hk => ⟨hk.2,⟨hk.1.2,hk.1.1.2⟩⟩)),(by (with_reducible repeat (first | apply Kd.R_alloc | apply Kd.R_drewN | apply Kd.R_drew));exact Kd.R_mono HO563.out (fun _ hk => ⟨hk.2,⟨hk.1.2,hk.1.1.2⟩⟩)),(by (with_reducible repeat (first | apply Kd.R_alloc | apply Kd.R_drewN | apply Kd.R_drew));exact Kd.R_mono HO566.out (fun _ hk => ⟨hk.1.2,⟨hk.2,hk.1.1.2⟩⟩)),(by (with_reducible repeat (first | apply Kd.R_alloc | apply Kd.R_drewN | apply Kd.R_drew));exact Kd.R_mono HO_5.out (fun _ hk => ⟨hk.1.2,⟨hk.2,hk.1.1.2⟩⟩)),bl_⟩)
          rintro ⟨v559,v562,v565⟩ w24 ⟨h0_,h1_,h2_,h3_,h4_⟩
          have n0_ : Aside0 (Kd.R (Kd.int .u32) 63 w24 w.heap.size (fun k_ => some k_ ≠ (v562 : Value).ownBlock ∧ some k_ ≠ (v565 : Value).ownBlock ∧ some k_ ≠ (.slice Ao16 x5_2.length co16 : Value).ownBlock) v559 y558) := ⟨h0_⟩
          have n1_ : Aside0 (Kd.R (Kd.int .u32) 63 w24 w.heap.size (fun k_ => some k_ ≠ (v559 : Value).ownBlock ∧ some k_ ≠ (v565 : Value).ownBlock ∧ some k_ ≠ (.slice Ao16 x5_2.length co16 : Value).ownBlock) v562 t561) := ⟨h1_⟩
          have n2_ : Aside0 (Kd.R (Kd.int .u32) 63 w24 w.heap.size (fun k_ => some k_ ≠ (v559 : Value).ownBlock ∧ some k_ ≠ (v562 : Value).ownBlock ∧ some k_ ≠ (.slice Ao16 x5_2.length co16 : Value).ownBlock) v565 y564) := ⟨h2_⟩
          have n3_ : Aside0 (Kd.R (Kd.int .u32) 63 w24 w.heap.size (fun k_ => some k_ ≠ (v559 : Value).ownBlock ∧ some k_ ≠ (v562 : Value).ownBlock ∧ some k_ ≠ (v565 : Value).ownBlock) (.slice Ao16 x5_2.length co16) x5_2) := ⟨h3_⟩
          have n4_ : Aside0 (Below w.heap.size w w24) := ⟨h4_⟩
          clear HO_5
          clear HB
          clear h0_ h1_ h2_ h3_ h4_
          have HO560 := n0_
          have HO563 := n1_
          have HO566 := n2_
          have HO_5 := n3_
          have HB := n4_
          clear n0_ n1_ n2_ n3_ n4_
          have hHeld := trivial
          obtain ⟨Ao25,co25,eo25⟩ := Kd.R_slice HO563.out
          (first | subst eo25 | (injection eo25 with f1_ f2_ f3_;have f4_ := f1_.symm;have f5_ := f3_.symm;clear f1_ f2_ f3_;subst f4_;subst f5_))
          obtain ⟨Ao26,co26,eo26⟩ := Kd.R_slice HO566.out
          (first | subst eo26 | (injection eo26 with f1_ f2_ f3_;have f4_ := f1_.symm;have f5_ := f3_.symm;clear f1_ f2_ f3_;subst f4_;subst f5_))
          refine norm_ (a' := ?_) ?_ ?_
          rotate_left
          ·simp only [putAll,Act.put,List.setIfInBounds_toArray,List.set_cons_zero,List.set_cons_succ]
           rfl
          refine one_ (i := 9) (N := some 40) #[true,true,true,true,true,true,true,true,true,true,false] rfl rfl (one_of HT_.out (by kernel_rfl)) (by decide) (fun K hK => ?_)
          refine goes_ Tryz.func45 (by kernel_rfl) rfl #[.slice Ao25 t561.length co25,.slice Ao26 y564.length co26] (by rfl) rfl rfl am_ ?_
          with_reducible refine (tabardref1_Plus.calls k2 _ _ t561 _ _ y564 t567 _ ?side1 ?side2 ?side3 ?side4 A13.out).mono ?_
          (case side1 => exact ca_ (Kd.R_reads' HO563.out).2.2)
          (case side2 => exact (Kd.R_reads' HO563.out).2.1)
          (case side3 => exact ca_ (Kd.R_reads' HO566.out).2.2)
          (case side4 => exact (Kd.R_reads' HO566.out).2.1)
          rintro e w27 ⟨v568,rfl,ho0,hb⟩
          refine ⟨_,rfl,?_⟩
          have n0_ := Aside0.mk (Kd.R_elder' (ra_ HO_5.out) (Kd.R_base ho0) hb)
          have n1_ := Aside0.mk (Kd.R_elder' (ra_ HO560.out) (Kd.R_base ho0) hb)
          have n2_ := Aside0.mk (Kd.R_elder' (ra_ HO563.out) (Kd.R_base ho0) hb)
          have n3_ := Aside0.mk (Kd.R_elder' (ra_ HO566.out) (Kd.R_base ho0) hb)
          have n4_ := Aside0.mk (Kd.R_lower (Kd.R_new' (Kd.R_new' (Kd.R_new' (Kd.R_new' ho0 (Kd.R_lt (ra_ HO_5.out))) (Kd.R_lt (ra_ HO560.out))) (Kd.R_lt (ra_ HO563.out))) (Kd.R_lt (ra_ HO566.out))) (below_size bl_))
          have n5_ := Aside0.mk (below_step bl_ hb)
          clear HO_5
          clear HO560
          clear HO563
          clear HO566
          clear HB
          have HO_5 := n0_
          have HO560 := n1_
          have HO563 := n2_
          have HO566 := n3_
          have HO569 := n4_
          have HB := n5_
          clear n0_ n1_ n2_ n3_ n4_ n5_
          (try clear hb)
          (try clear hb2)
          (try clear hk)
          (try clear hi)
          (try clear ho0)
          refine hK.out _ _ trivial (fun hHeld => ?_)
          clear hK K
          refine norm_ (a' := ?_) ?_ ?_
          rotate_left
          ·show Act.put _ (some 40) _ = _
           simp only [Act.put,List.setIfInBounds_toArray,List.set_cons_zero,List.set_cons_succ,i64_w,i32_w]
           rfl
          refine pure_ (i := 10) (N := some 5) (v := ?_) (a' := ?_) #[true,true,true,true,true,true,true,true,true,true,true] rfl rfl (any_of HT_.out (by kernel_rfl)) (fun _ _ _ h => h) (Or.inl ⟨by rfl,?_⟩) ?_ ?_
          rotate_left
          ·intro w'
           go_simp
           with_reducible rfl
          rotate_left
          ·simp only [Act.put,List.setIfInBounds_toArray,List.set_cons_zero,List.set_cons_succ,i64_w,i32_w]
           rfl
          refine done_ (done_of HT_.out (by kernel_rfl)) ?_
          obtain ⟨Ao28,co28,eo28⟩ := Kd.R_slice HO569.out
          subst eo28
          try go_wp2_with (first | ((with_reducible refine gate_callee (f := 43) rfl ?_);refine goesL_ (some 42) rfl rfl Tryz.func43 (by kernel_rfl) rfl #[.slice Ao28 t567.length co28] rfl am_ ?_;(with_reducible refine (tabardref1_Big.calls k2 _ _ t567 true _ ?side1 ?side2 A14.out).mono ?_);(case side1 => exact ca_ (Kd.R_reads' HO569.out).2.2);(case side2 => exact (Kd.R_reads' HO569.out).2.1);rintro e w29 ⟨rfl,hb⟩;refine ⟨_,rfl,?_⟩;replace HO_5 := Aside0.mk (Kd.R_below (ra_ HO_5.out) hb);replace HO560 := Aside0.mk (Kd.R_below (ra_ HO560.out) hb);replace HO563 := Aside0.mk (Kd.R_below (ra_ HO563.out) hb);replace HO566 := Aside0.mk (Kd.R_below (ra_ HO566.out) hb);replace HO569 := Aside0.mk (Kd.R_below (ra_ HO569.out) hb);replace HB := Aside0.mk (below_step bl_ hb);(try clear hb);(try clear hb2);(try clear hk);(try clear hi)))
          go_ret2
          exact ⟨_,by first | rfl | (simp [errW_none,errW_some] <;> rfl) | (simp [*,errW_none,errW_some] <;> rfl),by first | exact Kd.R_nil _ _ _ _ _ | exact Kd.N_nil _ _ _ _ _ | exact Kd.V_nil _ _ _ _ _ | exact Kd.Q_nil _ _ _ _ _ | exact Kd.S_nil _ _ _ _ _,by repeat (first | (with_reducible first | exact HB.out | apply below_alloc | apply pw_below_drewN | apply below_drew1) | exact HB.out)⟩
         ·replace c15 := Bool.eq_false_iff.mpr c15
          subst c15
          have H1 : (tabardref1_Parse.l1 k2 a0 t567 (wrap64 (x6_2 + 1))) = some (r1,r2) := by rw [if_neg (show ¬ (false = true) by decide)] at H;exact H
          clear H
          have H := H1
          clear H1
          have H' := Aside0.mk H
          clear H
          obtain ⟨Ao30,co30,eo30⟩ := Kd.R_slice HO_5.out
          subst eo30
          try go_wp2
          have n0_ := Aside0.mk (Kd.R_drew HO_5.out)
          have n1_ := Aside0.mk (below_drew1 HB.out)
          clear HO_5
          clear HB
          have HO_5 := n0_
          have HB := n1_
          clear n0_ n1_
          have p12 : 0 ≤ (x6_2 : Int) := od_
          have q12 : x6_2 < (a0.size : Int) := od_
          have hx12 := bt_at a0 x6_2
          replace p12 := eq_true p12
          replace q12 := eq_true q12
          refine start_ (n := 11) (S := fun w' => True) (ds := []) #[false,false,false,false,false,false,false,false,false,false,false] (by kernel_rfl) rfl rfl trivial (fun hHeld => ?_);refine with_tabW tabardref1_Parse.tab12 tabardref1_Parse.bits12 (fun HT_ HW_ => ?_)
          generalize wr.drew = w31 at HO_5 HB hHeld ⊢
          refine pure_ (i := 0) (N := some 31) (v := ?_) (a' := ?_) #[true,false,false,false,false,false,false,false,false,false,false] rfl rfl (any_of HT_.out (by kernel_rfl)) (fun _ _ _ h => h) (Or.inl ⟨by rfl,?_⟩) ?_ ?_
          rotate_left
          ·intro w'
           go_simp
           with_reducible rfl
          rotate_left
          ·simp only [Act.put,List.setIfInBounds_toArray,List.set_cons_zero,List.set_cons_succ,i64_w,i32_w]
           rfl
          refine pure_ (i := 3) (N := some 34) (v := ?_) (a' := ?_) #[true,false,false,true,false,false,false,false,false,false,false] rfl rfl (any_of HT_.out (by kernel_rfl)) (fun _ _ _ h => h) (Or.inl ⟨by rfl,?_⟩) ?_ ?_
          rotate_left
          ·intro w'
           go_simp
           with_reducible rfl
          rotate_left
          ·simp only [Act.put,List.setIfInBounds_toArray,List.set_cons_zero,List.set_cons_succ,i64_w,i32_w]
           rfl
          refine pure_ (i := 4) (N := some 35) (v := ?_) (a' := ?_) #[true,false,false,true,true,false,false,false,false,false,false] rfl rfl (any_of HT_.out (by kernel_rfl)) (fun _ _ _ h => h) (Or.inl ⟨by rfl,?_⟩) ?_ ?_
          rotate_left
          ·intro w'
           go_simp
           with_reducible rfl
          rotate_left
          ·simp only [Act.put,List.setIfInBounds_toArray,List.set_cons_zero,List.set_cons_succ,i64_w,i32_w]
           rfl
          refine take_ (i := 5) (N := some 36) (v := ?_) (a' := ?_) #[true,false,false,true,true,true,false,false,false,false,false] rfl rfl (take_ofW HT_.out HW_.out (by kernel_rfl)) (fun _ _ _ h => h) (Or.inl ⟨by rfl,?_⟩) hHeld ?_ ?_
          rotate_left
          ·intro w' _
           go_simp
           with_reducible rfl
          rotate_left
          ·simp only [Act.put,List.setIfInBounds_toArray,List.set_cons_zero,List.set_cons_succ,i64_w,i32_w]
           rfl
          refine pure_ (i := 6) (N := some 37) (v := ?_) (a' := ?_) #[true,false,false,true,true,true,true,false,false,false,false] rfl rfl (any_of HT_.out (by kernel_rfl)) (fun _ _ _ h => h) (Or.inl ⟨by rfl,?_⟩) ?_ ?_
          rotate_left
          ·intro w'
           go_simp
           with_reducible rfl
          rotate_left
          ·simp only [Act.put,List.setIfInBounds_toArray,List.set_cons_zero,List.set_cons_succ,i64_w,i32_w]
           rfl
          refine pure_ (i := 7) (N := some 38) (v := ?_) (a' := ?_) #[true,false,false,true,true,true,true,true,false,false,false] rfl rfl (any_of HT_.out (by kernel_rfl)) (fun _ _ _ h => h) (Or.inl ⟨by rfl,?_⟩) ?_ ?_
          rotate_left
          ·intro w'
           go_simp
           with_reducible rfl
          rotate_left
          ·simp only [Act.put,List.setIfInBounds_toArray,List.set_cons_zero,List.set_cons_succ,i64_w,i32_w]
           rfl
          refine join_ (σ := Value × Value × Value) 2 #[true,true,true,true,true,true,true,true,true,false,false] (fun s_ => [(32,s_.1),(33,s_.2.1),(39,s_.2.2)]) (fun s_ w' => (Kd.R (Kd.int .u32) 63 w' w.heap.size (fun k_ => some k_ ≠ (s_.2.1 : Value).ownBlock ∧ some k_ ≠ (s_.2.2 : Value).ownBlock ∧ some k_ ≠ (.slice Ao30 x5_2.length co30 : Value).ownBlock) s_.1 y558) ∧ (Kd.R (Kd.int .u32) 63 w' w.heap.size (fun k_ => some k_ ≠ (s_.1 : Value).ownBlock ∧ some k_ ≠ (s_.2.2 : Value).ownBlock ∧ some k_ ≠ (.slice Ao30 x5_2.length co30 : Value).ownBlock) s_.2.1 t561) ∧ (Kd.R (Kd.int .u32) 63 w' w.heap.size (fun k_ => some k_ ≠ (s_.1 : Value).ownBlock ∧ some k_ ≠ (s_.2.1 : Value).ownBlock ∧ some k_ ≠ (.slice Ao30 x5_2.length co30 : Value).ownBlock) s_.2.2 y564) ∧ (Kd.R (Kd.int .u32) 63 w' w.heap.size (fun k_ => some k_ ≠ (s_.1 : Value).ownBlock ∧ some k_ ≠ (s_.2.1 : Value).ownBlock ∧ some k_ ≠ (s_.2.2 : Value).ownBlock) (.slice Ao30 x5_2.length co30) x5_2) ∧ (Below w.heap.size w w')) ?_ ?_
          rotate_left
          ·intro hCont
           refine two_ (i := 1) (j := 8) (Ni := some 32) (Nj := some 39) #[true,true,false,true,true,true,true,true,false,false,false] #[true,false,false,true,true,true,true,true,true,false,false] rfl rfl rfl rfl (two_of HT_.out (by kernel_rfl)) (by decide) (by decide) (fun K hK => ?_) (fun K hK => ?_)
           ·skip
            refine Kd.R_lit_step (Kd.int .u32) _ 63 ?hg (N := 32) ?hd (xs := ([10] : List Int)) (inner := [.int .u32 10]) (ok := fun _ => True) (okp := fun _ => True) ?hr ?hp (fun _ hk => hk) trivial (Below.refl _ _) (Nat.le_refl _) (by simp) ?_;(case hd => rfl);(case hg => rfl);(case hr => first | (go_simp;done) | (go_simp;rfl) | (go_simp;rw [u32_u8]));(case hp => exact (Reps.one (show Kd.M (Kd.int .u32) _ _ _ 10 [.int .u32 10] from rfl) (Reps.none _ _)))
            intro v559 w32 ho33 hb hg_ hnew_
            clear hg_ hnew_
            (first | rw [← Ny558.out] at ho33 | (simp only [Int.reduceToNat] at ho33;rw [← Ny558.out] at ho33))
            have n0_ := Aside0.mk (Kd.R_elder' (ra_ HO_5.out) (Kd.R_base ho33) hb)
            have n1_ := Aside0.mk (Kd.R_lower (Kd.R_new' ho33 (Kd.R_lt (ra_ HO_5.out))) (below_size bl_))
            have n2_ := Aside0.mk (below_step bl_ hb)
            clear HO_5
            clear HB
            have HO_5 := n0_
            have HO560 := n1_
            have HB := n2_
            clear n0_ n1_ n2_
            clear hb ho33
            obtain ⟨Ao34,co34,eo34⟩ := Kd.R_slice HO560.out
            (first | subst eo34 | (injection eo34 with f1_ f2_ f3_;have f4_ := f1_.symm;have f5_ := f3_.symm;clear f1_ f2_ f3_;subst f4_;subst f5_))
            refine hK.out _ _ trivial (fun hHeld => ?_)
            clear hK K
            refine norm_ (a' := ?_) ?_ ?_
            rotate_left
            ·show Act.put _ (some 32) _ = _
             simp only [Act.put,List.setIfInBounds_toArray,List.set_cons_zero,List.set_cons_succ,i64_w,i32_w]
             rfl
            refine two_ (i := 2) (j := 8) (Ni := some 33) (Nj := some 39) #[true,true,true,true,true,true,true,true,false,false,false] #[true,true,false,true,true,true,true,true,true,false,false] rfl rfl rfl rfl (two_of HT_.out (by kernel_rfl)) (by decide) (by decide) (fun K hK => ?_) (fun K hK => ?_)
            ·skip
             refine goes_ Tryz.func48 (by kernel_rfl) rfl #[.slice Ao30 x5_2.length co30,.slice Ao34 y558.length co34] (by rfl) rfl rfl am_ ?_
             with_reducible refine (tabardref1_Times.calls k2 _ _ x5_2 _ _ y558 t561 _ ?side1 ?side2 ?side3 ?side4 A10.out).mono ?_
             (case side1 => exact ca_ (Kd.R_reads' HO_5.out).2.2)
             (case side2 => exact (Kd.R_reads' HO_5.out).2.1)
             (case side3 => exact ca_ (Kd.R_reads' HO560.out).2.2)
             (case side4 => exact (Kd.R_reads' HO560.out).2.1)
             rintro e w35 ⟨v562,rfl,ho0,hb⟩
             refine ⟨_,rfl,?_⟩
             have n0_ := Aside0.mk (Kd.R_elder' (ra_ HO_5.out) (Kd.R_base ho0) hb)
             have n1_ := Aside0.mk (Kd.R_elder' (ra_ HO560.out) (Kd.R_base ho0) hb)
             have n2_ := Aside0.mk (Kd.R_lower (Kd.R_new' (Kd.R_new' ho0 (Kd.R_lt (ra_ HO_5.out))) (Kd.R_lt (ra_ HO560.out))) (below_size bl_))
             have n3_ := Aside0.mk (below_step bl_ hb)
             clear HO_5
             clear HO560
             clear HB
             have HO_5 := n0_
             have HO560 := n1_
             have HO563 := n2_
             have HB := n3_
             clear n0_ n1_ n2_ n3_
             (try clear hb)
             (try clear hb2)
             (try clear hk)
             (try clear hi)
             (try clear ho0)
             refine hK.out _ _ trivial (fun hHeld => ?_)
             clear hK K
             refine norm_ (a' := ?_) ?_ ?_
             rotate_left
             ·show Act.put _ (some 33) _ = _
              simp only [Act.put,List.setIfInBounds_toArray,List.set_cons_zero,List.set_cons_succ,i64_w,i32_w]
              rfl
             refine one_ (i := 8) (N := some 39) #[true,true,true,true,true,true,true,true,true,false,false] rfl rfl (one_of HT_.out (by kernel_rfl)) (by decide) (fun K hK => ?_)
             refine Kd.R_lit_step (Kd.int .u32) _ 63 ?hg (N := 39) ?hd (xs := ([((bt a0 x6_2) - 48) % 256] : List Int)) (inner := [.int .u32 (((bt a0 x6_2) - 48) % 256)]) (ok := fun _ => True) (okp := fun _ => True) ?hr ?hp (fun _ hk => hk) trivial (Below.refl _ _) (Nat.le_refl _) (by simp) ?_;(case hd => rfl);(case hg => rfl);(case hr => first | (go_simp;done) | (go_simp;rfl) | (go_simp;rw [u32_u8]));(case hp => exact (Reps.one (show Kd.M (Kd.int .u32) _ _ _ (((bt a0 x6_2) - 48) % 256) [.int .u32 (((bt a0 x6_2) - 48) % 256)] from rfl) (Reps.none _ _)))
             intro v565 w36 ho37 hb hg_ hnew_
             clear hg_ hnew_
             (first | rw [← Ny564.out] at ho37 | (simp only [Int.reduceToNat] at ho37;rw [← Ny564.out] at ho37))
             have n0_ := Aside0.mk (Kd.R_elder' (ra_ HO_5.out) (Kd.R_base ho37) hb)
             have n1_ := Aside0.mk (Kd.R_elder' (ra_ HO560.out) (Kd.R_base ho37) hb)
             have n2_ := Aside0.mk (Kd.R_elder' (ra_ HO563.out) (Kd.R_base ho37) hb)
             have n3_ := Aside0.mk (Kd.R_lower (Kd.R_new' (Kd.R_new' (Kd.R_new' ho37 (Kd.R_lt (ra_ HO_5.out))) (Kd.R_lt (ra_ HO560.out))) (Kd.R_lt (ra_ HO563.out))) (below_size bl_))
             have n4_ := Aside0.mk (below_step bl_ hb)
             clear HO_5
             clear HO560
             clear HO563
             clear HB
             have HO_5 := n0_
             have HO560 := n1_
             have HO563 := n2_
             have HO566 := n3_
             have HB := n4_
             clear n0_ n1_ n2_ n3_ n4_
             clear hb ho37
             refine hK.out _ _ trivial (fun hHeld => ?_)
             clear hK K
             refine norm_ (a' := ?_) ?_ ?_
             rotate_left
             ·show Act.put _ (some 39) _ = _
              simp only [Act.put,List.setIfInBounds_toArray,List.set_cons_zero,List.set_cons_succ,i64_w,i32_w]
              rfl
             exact norm_ (by simp only [putAll,Act.put,List.setIfInBounds_toArray,List.set_cons_zero,List.set_cons_succ]) (hCont (.slice Ao34 y558.length co34,v562,v565) _ ⟨(by (with_reducible repeat (first | apply Kd.R_alloc | apply Kd.R_drewN | apply Kd.R_drew));exact Kd.R_mono HO560.out (fun _ hk => ⟨hk.1.2,⟨hk.2,hk.1.1.2⟩⟩)),(by (with_reducible repeat (first | apply Kd.R_alloc | apply Kd.R_drewN | apply Kd.R_drew));exact Kd.R_mono HO563.out (fun _ hk => ⟨hk.1.2,⟨hk.2,hk.1.1.2⟩⟩)),(by (with_reducible repeat (first | apply Kd.R_alloc | apply Kd.R_drewN | apply Kd.R_drew));exact Kd.R_mono HO566.out (fun _ hk => ⟨hk.1.2,⟨hk.2,hk.1.1.2⟩⟩)),(by (with_reducible repeat (first | apply Kd.R_alloc | apply Kd.R_drewN | apply Kd.R_drew));exact Kd.R_mono HO_5.out (fun _ hk => ⟨hk.1.1.2,⟨hk.1.2,hk.2⟩⟩)),bl_⟩)
            ·skip
             refine Kd.R_lit_step (Kd.int .u32) _ 63 ?hg (N := 39) ?hd (xs := ([((bt a0 x6_2) - 48) % 256] : List Int)) (inner := [.int .u32 (((bt a0 x6_2) - 48) % 256)]) (ok := fun _ => True) (okp := fun _ => True) ?hr ?hp (fun _ hk => hk) trivial (Below.refl _ _) (Nat.le_refl _) (by simp) ?_;(case hd => rfl);(case hg => rfl);(case hr => first | (go_simp;done) | (go_simp;rfl) | (go_simp;rw [u32_u8]));(case hp => exact (Reps.one (show Kd.M (Kd.int .u32) _ _ _ (((bt a0 x6_2) - 48) % 256) [.int .u32 (((bt a0 x6_2) - 48) % 256)] from rfl) (Reps.none _ _)))
             intro v565 w34 ho35 hb hg_ hnew_
             clear hg_ hnew_
             (first | rw [← Ny564.out] at ho35 | (simp only [Int.reduceToNat] at ho35;rw [← Ny564.out] at ho35))
             have n0_ := Aside0.mk (Kd.R_elder' (ra_ HO_5.out) (Kd.R_base ho35) hb)
             have n1_ := Aside0.mk (Kd.R_elder' (ra_ HO560.out) (Kd.R_base ho35) hb)
             have n2_ := Aside0.mk (Kd.R_lower (Kd.R_new' (Kd.R_new' ho35 (Kd.R_lt (ra_ HO_5.out))) (Kd.R_lt (ra_ HO560.out))) (below_size bl_))
             have n3_ := Aside0.mk (below_step bl_ hb)
             clear HO_5
             clear HO560
             clear HB
             have HO_5 := n0_
             have HO560 := n1_
             have HO566 := n2_
             have HB := n3_
             clear n0_ n1_ n2_ n3_
             clear hb ho35
             obtain ⟨Ao36,co36,eo36⟩ := Kd.R_slice HO560.out
             (first | subst eo36 | (injection eo36 with f1_ f2_ f3_;have f4_ := f1_.symm;have f5_ := f3_.symm;clear f1_ f2_ f3_;subst f4_;subst f5_))
             refine hK.out _ _ trivial (fun hHeld => ?_)
             clear hK K
             refine norm_ (a' := ?_) ?_ ?_
             rotate_left
             ·show Act.put _ (some 39) _ = _
              simp only [Act.put,List.setIfInBounds_toArray,List.set_cons_zero,List.set_cons_succ,i64_w,i32_w]
              rfl
             refine one_ (i := 2) (N := some 33) #[true,true,true,true,true,true,true,true,true,false,false] rfl rfl (one_of HT_.out (by kernel_rfl)) (by decide) (fun K hK => ?_)
             refine goes_ Tryz.func48 (by kernel_rfl) rfl #[.slice Ao30 x5_2.length co30,.slice Ao36 y558.length co36] (by rfl) rfl rfl am_ ?_
             with_reducible refine (tabardref1_Times.calls k2 _ _ x5_2 _ _ y558 t561 _ ?side1 ?side2 ?side3 ?side4 A10.out).mono ?_
             (case side1 => exact ca_ (Kd.R_reads' HO_5.out).2.2)
             (case side2 => exact (Kd.R_reads' HO_5.out).2.1)
             (case side3 => exact ca_ (Kd.R_reads' HO560.out).2.2)
             (case side4 => exact (Kd.R_reads' HO560.out).2.1)
             rintro e w37 ⟨v562,rfl,ho0,hb⟩
             refine ⟨_,rfl,?_⟩
             have n0_ := Aside0.mk (Kd.R_elder' (ra_ HO_5.out) (Kd.R_base ho0) hb)
             have n1_ := Aside0.mk (Kd.R_elder' (ra_ HO560.out) (Kd.R_base ho0) hb)
             have n2_ := Aside0.mk (Kd.R_elder' (ra_ HO566.out) (Kd.R_base ho0) hb)
             have n3_ := Aside0.mk (Kd.R_lower (Kd.R_new' (Kd.R_new' (Kd.R_new' ho0 (Kd.R_lt (ra_ HO_5.out))) (Kd.R_lt (ra_ HO560.out))) (Kd.R_lt (ra_ HO566.out))) (below_size bl_))
             have n4_ := Aside0.mk (below_step bl_ hb)
             clear HO_5
             clear HO560
             clear HO566
             clear HB
             have HO_5 := n0_
             have HO560 := n1_
             have HO566 := n2_
             have HO563 := n3_
             have HB := n4_
             clear n0_ n1_ n2_ n3_ n4_
             (try clear hb)
             (try clear hb2)
             (try clear hk)
             (try clear hi)
             (try clear ho0)
             refine hK.out _ _ trivial (fun hHeld => ?_)
             clear hK K
             refine norm_ (a' := ?_) ?_ ?_
             rotate_left
             ·show Act.put _ (some 33) _ = _
              simp only [Act.put,List.setIfInBounds_toArray,List.set_cons_zero,List.set_cons_succ,i64_w,i32_w]
              rfl
             exact norm_ (by simp only [putAll,Act.put,List.setIfInBounds_toArray,List.set_cons_zero,List.set_cons_succ]) (hCont (.slice Ao36 y558.length co36,v562,v565) _ ⟨(by (with_reducible repeat (first | apply Kd.R_alloc | apply Kd.R_drewN | apply Kd.R_drew));exact Kd.R_mono HO560.out (fun _ hk => ⟨hk.2,⟨hk.1.2,hk.1.1.2⟩⟩)),(by (with_reducible repeat (first | apply Kd.R_alloc | apply Kd.R_drewN | apply Kd.R_drew));exact Kd.R_mono HO563.out (fun _ hk => ⟨hk.1.2,⟨hk.2,hk.1.1.2⟩⟩)),(by (with_reducible repeat (first | apply Kd.R_alloc | apply Kd.R_drewN | apply Kd.R_drew));exact Kd.R_mono HO566.out (fun _ hk => ⟨hk.1.2,⟨hk.2,hk.1.1.2⟩⟩)),(by (with_reducible repeat (first | apply Kd.R_alloc | apply Kd.R_drewN | apply Kd.R_drew));exact Kd.R_mono HO_5.out (fun _ hk => ⟨hk.1.1.2,⟨hk.2,hk.1.2⟩⟩)),bl_⟩)
           ·skip
            refine Kd.R_lit_step (Kd.int .u32) _ 63 ?hg (N := 39) ?hd (xs := ([((bt a0 x6_2) - 48) % 256] : List Int)) (inner := [.int .u32 (((bt a0 x6_2) - 48) % 256)]) (ok := fun _ => True) (okp := fun _ => True) ?hr ?hp (fun _ hk => hk) trivial (Below.refl _ _) (Nat.le_refl _) (by simp) ?_;(case hd => rfl);(case hg => rfl);(case hr => first | (go_simp;done) | (go_simp;rfl) | (go_simp;rw [u32_u8]));(case hp => exact (Reps.one (show Kd.M (Kd.int .u32) _ _ _ (((bt a0 x6_2) - 48) % 256) [.int .u32 (((bt a0 x6_2) - 48) % 256)] from rfl) (Reps.none _ _)))
            intro v565 w32 ho33 hb hg_ hnew_
            clear hg_ hnew_
            (first | rw [← Ny564.out] at ho33 | (simp only [Int.reduceToNat] at ho33;rw [← Ny564.out] at ho33))
            have n0_ := Aside0.mk (Kd.R_elder' (ra_ HO_5.out) (Kd.R_base ho33) hb)
            have n1_ := Aside0.mk (Kd.R_lower (Kd.R_new' ho33 (Kd.R_lt (ra_ HO_5.out))) (below_size bl_))
            have n2_ := Aside0.mk (below_step bl_ hb)
            clear HO_5
            clear HB
            have HO_5 := n0_
            have HO566 := n1_
            have HB := n2_
            clear n0_ n1_ n2_
            clear hb ho33
            refine hK.out _ _ trivial (fun hHeld => ?_)
            clear hK K
            refine norm_ (a' := ?_) ?_ ?_
            rotate_left
            ·show Act.put _ (some 39) _ = _
             simp only [Act.put,List.setIfInBounds_toArray,List.set_cons_zero,List.set_cons_succ,i64_w,i32_w]
             rfl
            refine one_ (i := 1) (N := some 32) #[true,true,false,true,true,true,true,true,true,false,false] rfl rfl (one_of HT_.out (by kernel_rfl)) (by decide) (fun K hK => ?_)
            refine Kd.R_lit_step (Kd.int .u32) _ 63 ?hg (N := 32) ?hd (xs := ([10] : List Int)) (inner := [.int .u32 10]) (ok := fun _ => True) (okp := fun _ => True) ?hr ?hp (fun _ hk => hk) trivial (Below.refl _ _) (Nat.le_refl _) (by simp) ?_;(case hd => rfl);(case hg => rfl);(case hr => first | (go_simp;done) | (go_simp;rfl) | (go_simp;rw [u32_u8]));(case hp => exact (Reps.one (show Kd.M (Kd.int .u32) _ _ _ 10 [.int .u32 10] from rfl) (Reps.none _ _)))
            intro v559 w34 ho35 hb hg_ hnew_
            clear hg_ hnew_
            (first | rw [← Ny558.out] at ho35 | (simp only [Int.reduceToNat] at ho35;rw [← Ny558.out] at ho35))
            have n0_ := Aside0.mk (Kd.R_elder' (ra_ HO_5.out) (Kd.R_base ho35) hb)
            have n1_ := Aside0.mk (Kd.R_elder' (ra_ HO566.out) (Kd.R_base ho35) hb)
            have n2_ := Aside0.mk (Kd.R_lower (Kd.R_new' (Kd.R_new' ho35 (Kd.R_lt (ra_ HO_5.out))) (Kd.R_lt (ra_ HO566.out))) (below_size bl_))
            have n3_ := Aside0.mk (below_step bl_ hb)
            clear HO_5
            clear HO566
            clear HB
            have HO_5 := n0_
            have HO566 := n1_
            have HO560 := n2_
            have HB := n3_
            clear n0_ n1_ n2_ n3_
            clear hb ho35
            obtain ⟨Ao36,co36,eo36⟩ := Kd.R_slice HO560.out
            (first | subst eo36 | (injection eo36 with f1_ f2_ f3_;have f4_ := f1_.symm;have f5_ := f3_.symm;clear f1_ f2_ f3_;subst f4_;subst f5_))
            refine hK.out _ _ trivial (fun hHeld => ?_)
            clear hK K
            refine norm_ (a' := ?_) ?_ ?_
            rotate_left
            ·show Act.put _ (some 32) _ = _
             simp only [Act.put,List.setIfInBounds_toArray,List.set_cons_zero,List.set_cons_succ,i64_w,i32_w]
             rfl
            refine one_ (i := 2) (N := some 33) #[true,true,true,true,true,true,true,true,true,false,false] rfl rfl (one_of HT_.out (by kernel_rfl)) (by decide) (fun K hK => ?_)
            refine goes_ Tryz.func48 (by kernel_rfl) rfl #[.slice Ao30 x5_2.length co30,.slice Ao36 y558.length co36] (by rfl) rfl rfl am_ ?_
            with_reducible refine (tabardref1_Times.calls k2 _ _ x5_2 _ _ y558 t561 _ ?side1 ?side2 ?side3 ?side4 A10.out).mono ?_
            (case side1 => exact ca_ (Kd.R_reads' HO_5.out).2.2)
            (case side2 => exact (Kd.R_reads' HO_5.out).2.1)
            (case side3 => exact ca_ (Kd.R_reads' HO560.out).2.2)
            (case side4 => exact (Kd.R_reads' HO560.out).2.1)
            rintro e w37 ⟨v562,rfl,ho0,hb⟩
            refine ⟨_,rfl,?_⟩
            have n0_ := Aside0.mk (Kd.R_elder' (ra_ HO_5.out) (Kd.R_base ho0) hb)
            have n1_ := Aside0.mk (Kd.R_elder' (ra_ HO566.out) (Kd.R_base ho0) hb)
            have n2_ := Aside0.mk (Kd.R_elder' (ra_ HO560.out) (Kd.R_base ho0) hb)
            have n3_ := Aside0.mk (Kd.R_lower (Kd.R_new' (Kd.R_new' (Kd.R_new' ho0 (Kd.R_lt (ra_ HO_5.out))) (Kd.R_lt (ra_ HO566.out))) (Kd.R_lt (ra_ HO560.out))) (below_size bl_))
            have n4_ := Aside0.mk (below_step bl_ hb)
            clear HO_5
            clear HO566
            clear HO560
            clear HB
            have HO_5 := n0_
            have HO566 := n1_
            have HO560 := n2_
            have HO563 := n3_
            have HB := n4_
            clear n0_ n1_ n2_ n3_ n4_
            (try clear hb)
            (try clear hb2)
            (try clear hk)
            (try clear hi)
            (try clear ho0)
            refine hK.out _ _ trivial (fun hHeld => ?_)
            clear hK K
            refine norm_ (a' := ?_) ?_ ?_
            rotate_left
            ·show Act.put _ (some 33) _ = _
             simp only [Act.put,List.setIfInBounds_toArray,List.set_cons_zero,List.set_cons_succ,i64_w,i32_w]
             rfl
            exact norm_ (by simp only [putAll,Act.put,List.setIfInBounds_toArray,List.set_cons_zero,List.set_cons_succ]) (hCont (.slice Ao36 y558.length co36,v562,v565) _ ⟨(by (with_reducible repeat (first | apply Kd.R_alloc | apply Kd.R_drewN | apply Kd.R_drew));exact Kd.R_mono HO560.out (fun _ hk => ⟨hk.2,⟨hk.1.2,hk.1.1.2⟩⟩)),(by (with_reducible repeat (first | apply Kd.R_alloc | apply Kd.R_drewN | apply Kd.R_drew));exact Kd.R_mono HO563.out (fun _ hk => ⟨hk.2,⟨hk.1.2,hk.1.1.2⟩⟩)),(by (with_reducible repeat (first | apply Kd.R_alloc | apply Kd.R_drewN | apply Kd.R_drew));exact Kd.R_mono HO566.out (fun _ hk => ⟨hk.1.2,⟨hk.2,hk.1.1.2⟩⟩)),(by (with_reducible repeat (first | apply Kd.R_alloc | apply Kd.R_drewN | apply Kd.R_drew));exact Kd.R_mono HO_5.out (fun _ hk => ⟨hk.1.2,⟨hk.2,hk.1.1.2⟩⟩)),bl_⟩)
          rintro ⟨v559,v562,v565⟩ w38 ⟨h0_,h1_,h2_,h3_,h4_⟩
          have n0_ : Aside0 (Kd.R (Kd.int .u32) 63 w38 w.heap.size (fun k_ => some k_ ≠ (v562 : Value).ownBlock ∧ some k_ ≠ (v565 : Value).ownBlock ∧ some k_ ≠ (.slice Ao30 x5_2.length co30 : Value).ownBlock) v559 y558) := ⟨h0_⟩
          have n1_ : Aside0 (Kd.R (Kd.int .u32) 63 w38 w.heap.size (fun k_ => some k_ ≠ (v559 : Value).ownBlock ∧ some k_ ≠ (v565 : Value).ownBlock ∧ some k_ ≠ (.slice Ao30 x5_2.length co30 : Value).ownBlock) v562 t561) := ⟨h1_⟩
          have n2_ : Aside0 (Kd.R (Kd.int .u32) 63 w38 w.heap.size (fun k_ => some k_ ≠ (v559 : Value).ownBlock ∧ some k_ ≠ (v562 : Value).ownBlock ∧ some k_ ≠ (.slice Ao30 x5_2.length co30 : Value).ownBlock) v565 y564) := ⟨h2_⟩
          have n3_ : Aside0 (Kd.R (Kd.int .u32) 63 w38 w.heap.size (fun k_ => some k_ ≠ (v559 : Value).ownBlock ∧ some k_ ≠ (v562 : Value).ownBlock ∧ some k_ ≠ (v565 : Value).ownBlock) (.slice Ao30 x5_2.length co30) x5_2) := ⟨h3_⟩
          have n4_ : Aside0 (Below w.heap.size w w38) := ⟨h4_⟩
          clear HO_5
          clear HB
          clear h0_ h1_ h2_ h3_ h4_
          have HO560 := n0_
          have HO563 := n1_
          have HO566 := n2_
          have HO_5 := n3_
          have HB := n4_
          clear n0_ n1_ n2_ n3_ n4_
          have hHeld := trivial
          obtain ⟨Ao39,co39,eo39⟩ := Kd.R_slice HO563.out
          (first | subst eo39 | (injection eo39 with f1_ f2_ f3_;have f4_ := f1_.symm;have f5_ := f3_.symm;clear f1_ f2_ f3_;subst f4_;subst f5_))
          obtain ⟨Ao40,co40,eo40⟩ := Kd.R_slice HO566.out
          (first | subst eo40 | (injection eo40 with f1_ f2_ f3_;have f4_ := f1_.symm;have f5_ := f3_.symm;clear f1_ f2_ f3_;subst f4_;subst f5_))
          refine norm_ (a' := ?_) ?_ ?_
          rotate_left
          ·simp only [putAll,Act.put,List.setIfInBounds_toArray,List.set_cons_zero,List.set_cons_succ]
           rfl
          refine one_ (i := 9) (N := some 40) #[true,true,true,true,true,true,true,true,true,true,false] rfl rfl (one_of HT_.out (by kernel_rfl)) (by decide) (fun K hK => ?_)
          refine goes_ Tryz.func45 (by kernel_rfl) rfl #[.slice Ao39 t561.length co39,.slice Ao40 y564.length co40] (by rfl) rfl rfl am_ ?_
          with_reducible refine (tabardref1_Plus.calls k2 _ _ t561 _ _ y564 t567 _ ?side1 ?side2 ?side3 ?side4 A13.out).mono ?_
          (case side1 => exact ca_ (Kd.R_reads' HO563.out).2.2)
          (case side2 => exact (Kd.R_reads' HO563.out).2.1)
          (case side3 => exact ca_ (Kd.R_reads' HO566.out).2.2)
          (case side4 => exact (Kd.R_reads' HO566.out).2.1)
          rintro e w41 ⟨v568,rfl,ho0,hb⟩
          refine ⟨_,rfl,?_⟩
          have n0_ := Aside0.mk (Kd.R_elder' (ra_ HO_5.out) (Kd.R_base ho0) hb)
          have n1_ := Aside0.mk (Kd.R_elder' (ra_ HO560.out) (Kd.R_base ho0) hb)
          have n2_ := Aside0.mk (Kd.R_elder' (ra_ HO563.out) (Kd.R_base ho0) hb)
          have n3_ := Aside0.mk (Kd.R_elder' (ra_ HO566.out) (Kd.R_base ho0) hb)
          have n4_ := Aside0.mk (Kd.R_lower (Kd.R_new' (Kd.R_new' (Kd.R_new' (Kd.R_new' ho0 (Kd.R_lt (ra_ HO_5.out))) (Kd.R_lt (ra_ HO560.out))) (Kd.R_lt (ra_ HO563.out))) (Kd.R_lt (ra_ HO566.out))) (below_size bl_))
          have n5_ := Aside0.mk (below_step bl_ hb)
          clear HO_5
          clear HO560
          clear HO563
          clear HO566
          clear HB
          have HO_5 := n0_
          have HO560 := n1_
          have HO563 := n2_
          have HO566 := n3_
          have HO569 := n4_
          have HB := n5_
          clear n0_ n1_ n2_ n3_ n4_ n5_
          (try clear hb)
          (try clear hb2)
          (try clear hk)
          (try clear hi)
          (try clear ho0)
          refine hK.out _ _ trivial (fun hHeld => ?_)
          clear hK K
          refine norm_ (a' := ?_) ?_ ?_
          rotate_left
          ·show Act.put _ (some 40) _ = _
           simp only [Act.put,List.setIfInBounds_toArray,List.set_cons_zero,List.set_cons_succ,i64_w,i32_w]
           rfl
          refine pure_ (i := 10) (N := some 5) (v := ?_) (a' := ?_) #[true,true,true,true,true,true,true,true,true,true,true] rfl rfl (any_of HT_.out (by kernel_rfl)) (fun _ _ _ h => h) (Or.inl ⟨by rfl,?_⟩) ?_ ?_
          rotate_left
          ·intro w'
           go_simp
           with_reducible rfl
          rotate_left
          ·simp only [Act.put,List.setIfInBounds_toArray,List.set_cons_zero,List.set_cons_succ,i64_w,i32_w]
           rfl
          refine done_ (done_of HT_.out (by kernel_rfl)) ?_
          obtain ⟨Ao42,co42,eo42⟩ := Kd.R_slice HO569.out
          subst eo42
          try go_wp2_with (first | ((with_reducible refine gate_callee (f := 43) rfl ?_);refine goesL_ (some 42) rfl rfl Tryz.func43 (by kernel_rfl) rfl #[.slice Ao42 t567.length co42] rfl am_ ?_;(with_reducible refine (tabardref1_Big.calls k2 _ _ t567 false _ ?side1 ?side2 A14.out).mono ?_);(case side1 => exact ca_ (Kd.R_reads' HO569.out).2.2);(case side2 => exact (Kd.R_reads' HO569.out).2.1);rintro e w43 ⟨rfl,hb⟩;refine ⟨_,rfl,?_⟩;replace HO_5 := Aside0.mk (Kd.R_below (ra_ HO_5.out) hb);replace HO560 := Aside0.mk (Kd.R_below (ra_ HO560.out) hb);replace HO563 := Aside0.mk (Kd.R_below (ra_ HO563.out) hb);replace HO566 := Aside0.mk (Kd.R_below (ra_ HO566.out) hb);replace HO569 := Aside0.mk (Kd.R_below (ra_ HO569.out) hb);replace HB := Aside0.mk (below_step bl_ hb);(try clear hb);(try clear hb2);(try clear hk);(try clear hi)))
          go_roundg k2
          case measure => have := HK1.out;have := HK2.out;omega
          case rel => exact ⟨(t567),(wrap64 (x6_2 + 1)),(by first | rfl | (simp;done) | (simp [*];done)),H',⟨by have := HK1.out;have := HK2.out;omega⟩,⟨by (with_reducible repeat (first | apply Kd.R_alloc | apply Kd.R_drewN | apply Kd.R_drew));exact Kd.R_mono HO569.out (fun _ hk => trivial)⟩,⟨by repeat (first | (with_reducible first | exact HB.out | apply below_alloc | apply pw_below_drewN | apply below_drew1) | exact HB.out)⟩⟩
        ·rw [if_neg c11] at H
         exact absurd H (by simp)
       ·rw [if_neg c9] at H
        have c9b0 : decide (x6_2 < (a0.size : Int)) = false := decide_eq_false c9
        clear c9
        simp only [Option.some.injEq,Prod.mk.injEq] at H
        obtain ⟨rfl,rfl⟩ := H
        go_wp2
        go_ret2
        exact ⟨_,by first | rfl | (simp [errW_none,errW_some] <;> rfl) | (simp [*,errW_none,errW_some] <;> rfl),by (with_reducible repeat (first | apply Kd.R_alloc | apply Kd.R_drewN | apply Kd.R_drew));exact HO_5.out,by repeat (first | (with_reducible first | exact HB.out | apply below_alloc | apply pw_below_drewN | apply below_drew1) | exact HB.out)⟩

end Go.Proofs.YtfcenlhaepckoaaGreatDoor.P
