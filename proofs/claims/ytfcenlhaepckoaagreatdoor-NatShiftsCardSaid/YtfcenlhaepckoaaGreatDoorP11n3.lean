-- Printed by a program of this session (wip/tools) over the kit's print: not trusted, Lean checks it.
import Derived.Test.YtfcenlhaepckoaaGreatDoorP0n3
import Derived.Test.YtfcenlhaepckoaaGreatDoorProg
import Derived.Test.YtfcenlhaepckoaaGreatDoorElibn3
import Derived.Test.YtfcenlhaepckoaaGreatDoorSqn3
import Derived.Test.YtfcenlhaepckoaaGreatDoorP7n3
import Derived.Test.YtfcenlhaepckoaaGreatDoorP9n3
import Derived.Test.YtfcenlhaepckoaaGreatDoorLibsn3
namespace Go.Proofs.YtfcenlhaepckoaaGreatDoor.P
set_option linter.all false
open Go.RowKit Go.Proofs.YtfcenlhaepckoaaGreatDoorW.PrintWords Go.Proofs.YtfcenlhaepckoaaGreatDoorW.PrintLast Go.Proofs.YtfcenlhaepckoaaGreatDoorW.PrintMore
attribute [local go_sem] max2_int min2_int max_two min_two max_three min_three max_four min_four   -- for this text's walks alone
attribute [local go_sem] cell_after
set_option linter.unusedVariables false
set_option linter.unusedSimpArgs false

/-! ### tabardref1_Shr: function 30 -/
mutual
def tabardref1_Shr.l0 : Nat → Int → List Int → List Int → Bool → Int → Option (List Int × Bool × Int)
 | 0,_,_,_,_,_ => none
 | k + 1,x1,x7,x8,x9,x10 => if x10 < (wrap64 (32 * (x7.length : Int))) then ((tabardref1_Bit.f x7 x10).bind fun t528 => (if t528 = true then (tabardref1_Shr.j1 k x1 x7 x8 x9 x10 t528 (decide (x10 < x1))) else (tabardref1_Shr.j1 k x1 x7 x8 x9 x10 t528 false))) else ((tabardref1_Trim.f k x8).bind fun t525 => (some (t525,x9,0)))
def tabardref1_Shr.j1 : Nat → Int → List Int → List Int → Bool → Int → Bool → Bool → Option (List Int × Bool × Int)
 | 0,_,_,_,_,_,_,_ => none
 | k + 1,x1,x7,x8,x9,x10,x11,x36 => if x36 = true then (if x11 = true then (if x10 ≥ x1 then (if 0 ≤ (wrap64 (Int.tdiv (wrap64 (x10 - x1)) 32)) then (if (wrap64 (Int.tdiv (wrap64 (x10 - x1)) 32)) < (x8.length : Int) then (if 0 ≤ (IntKind.u64.wrap (Int.tmod (wrap64 (x10 - x1)) 32)) then (tabardref1_Shr.l0 k x1 x7 (x8.set ((wrap64 (Int.tdiv (wrap64 (x10 - x1)) 32)) : Int).toNat (Go.bits .or .u32 (rd x8 (wrap64 (Int.tdiv (wrap64 (x10 - x1)) 32))) (shl .u32 1 (IntKind.u64.wrap (Int.tmod (wrap64 (x10 - x1)) 32))))) true (wrap64 (x10 + 1))) else (none)) else (none)) else (none)) else (tabardref1_Shr.l0 k x1 x7 x8 true (wrap64 (x10 + 1)))) else (tabardref1_Shr.l0 k x1 x7 x8 true (wrap64 (x10 + 1)))) else (if x11 = true then (if x10 ≥ x1 then (if 0 ≤ (wrap64 (Int.tdiv (wrap64 (x10 - x1)) 32)) then (if (wrap64 (Int.tdiv (wrap64 (x10 - x1)) 32)) < (x8.length : Int) then (if 0 ≤ (IntKind.u64.wrap (Int.tmod (wrap64 (x10 - x1)) 32)) then (tabardref1_Shr.l0 k x1 x7 (x8.set ((wrap64 (Int.tdiv (wrap64 (x10 - x1)) 32)) : Int).toNat (Go.bits .or .u32 (rd x8 (wrap64 (Int.tdiv (wrap64 (x10 - x1)) 32))) (shl .u32 1 (IntKind.u64.wrap (Int.tmod (wrap64 (x10 - x1)) 32))))) x9 (wrap64 (x10 + 1))) else (none)) else (none)) else (none)) else (tabardref1_Shr.l0 k x1 x7 x8 x9 (wrap64 (x10 + 1)))) else (tabardref1_Shr.l0 k x1 x7 x8 x9 (wrap64 (x10 + 1))))
end
def tabardref1_Shr.f (k : Nat) (l0 : List Int) (a1 : Int) : Option (List Int × Bool × Int) := if a1 < 0 then (some (([] : List Int),false,1)) else ((tabardref1_Big.f k l0).bind fun t518 => (if t518 = true then (some (([] : List Int),false,2)) else ((tabardref1_Trim.f k l0).bind fun t519 => (if 0 ≤ (t519.length : Int) then (if ((t519.length : Int) : Int).toNat ≤ 70368744177664 then (tabardref1_Shr.l0 k a1 t519 (List.replicate ((t519.length : Int) : Int).toNat 0) false 0) else (none)) else (none)))))
set_option maxHeartbeats 8000000 in
set_option maxRecDepth 100000 in
theorem tabardref1_Shr.calls (k : Nat) (A0 : Option Addr) (c0 : Nat) (l0 : List Int) (a1 : Int) (r1 : List Int) (r2 : Bool) (r3 : Int) (w : World) (hr0 : Kd.C (Kd.int .u32) w A0 l0.length l0) (hc0 : l0.length ≤ c0) (h : tabardref1_Shr.f k l0 a1 = some (r1,r2,r3)) :
  Calls Tryz.prog 30 #[.slice A0 l0.length c0,.int .i64 a1] w fun e w' => ∃ v0_ : Value,e = .returned (.tuple #[v0_,.bool r2,.int .i64 r3]) ∧ Kd.R (Kd.int .u32) 63 w' w.heap.size (fun _ => True) v0_ r1 ∧ Below w.heap.size w w' := by
 have HR0 := Aside0.mk hr0
 have HC0 := Aside0.mk hc0
 clear hr0 hc0
 have HB := Aside0.mk (Below.refl w.heap.size w)
 have H : (if a1 < 0 then (some (([] : List Int),false,1)) else ((tabardref1_Big.f k l0).bind fun t518 => (if t518 = true then (some (([] : List Int),false,2)) else ((tabardref1_Trim.f k l0).bind fun t519 => (if 0 ≤ (t519.length : Int) then (if ((t519.length : Int) : Int).toNat ≤ 70368744177664 then (tabardref1_Shr.l0 k a1 t519 (List.replicate ((t519.length : Int) : Int).toNat 0) false 0) else (none)) else (none)))))) = some (r1,r2,r3) := h
 clear h
 by_cases c3 : a1 < 0
 ·rw [if_pos c3] at H
  have c3b0 : decide (a1 < 0) = true := decide_eq_true c3
  clear c3
  simp only [Option.some.injEq,Prod.mk.injEq] at H
  obtain ⟨rfl,rfl,rfl⟩ := H
  go_enter Tryz.func30,Tryz.ntmps30
  go_wp2
  go_ret3
  exact ⟨_,by first | rfl | (simp [errW_none,errW_some] <;> rfl) | (simp [*,errW_none,errW_some] <;> rfl),by first | exact Kd.R_nil _ _ _ _ _ | exact Kd.N_nil _ _ _ _ _ | exact Kd.V_nil _ _ _ _ _ | exact Kd.Q_nil _ _ _ _ _ | exact Kd.S_nil _ _ _ _ _,by repeat (first | (with_reducible first | exact HB.out | apply below_alloc | apply pw_below_drewN | apply below_drew1) | exact HB.out)⟩
 ·rw [if_neg c3] at H
  have c3b0 : decide (a1 < 0) = false := decide_eq_false c3
  clear c3
  replace H := Option.bind_eq_some_iff.mp H
  obtain ⟨t518,A40,H⟩ := H
  replace H : (if t518 = true then (some (([] : List Int),false,2)) else ((tabardref1_Trim.f k l0).bind fun t519 => (if 0 ≤ (t519.length : Int) then (if ((t519.length : Int) : Int).toNat ≤ 70368744177664 then (tabardref1_Shr.l0 k a1 t519 (List.replicate ((t519.length : Int) : Int).toNat 0) false 0) else (none)) else (none)))) = some (r1,r2,r3) := H
  have A4 := Aside0.mk A40
  clear A40
  by_cases c5 : t518 = true
  ·subst c5
   have H1 : (some (([] : List Int),false,2)) = some (r1,r2,r3) := by rw [if_pos rfl] at H;exact H
   clear H
   have H := H1
   clear H1
   simp only [Option.some.injEq,Prod.mk.injEq] at H
   obtain ⟨rfl,rfl,rfl⟩ := H
   go_enter Tryz.func30,Tryz.ntmps30
   go_wp2_with (first | ((with_reducible refine gate_callee (f := 43) rfl ?_);refine goesL_ (some 15) rfl rfl Tryz.func43 (by kernel_rfl) rfl #[.slice A0 l0.length c0] rfl am_ ?_;(with_reducible refine (tabardref1_Big.calls k _ _ l0 true _ ?side1 ?side2 A4.out).mono ?_);(case side1 => exact ca_ HR0.out);(case side2 => exact HC0.out);rintro e w6 ⟨rfl,hb⟩;refine ⟨_,rfl,?_⟩;replace HB := Aside0.mk (below_step bl_ hb);(try clear hb);(try clear hb2);(try clear hk);(try clear hi)))
   go_ret3
   exact ⟨_,by first | rfl | (simp [errW_none,errW_some] <;> rfl) | (simp [*,errW_none,errW_some] <;> rfl),by first | exact Kd.R_nil _ _ _ _ _ | exact Kd.N_nil _ _ _ _ _ | exact Kd.V_nil _ _ _ _ _ | exact Kd.Q_nil _ _ _ _ _ | exact Kd.S_nil _ _ _ _ _,by repeat (first | (with_reducible first | exact HB.out | apply below_alloc | apply pw_below_drewN | apply below_drew1) | exact HB.out)⟩
  ·replace c5 := Bool.eq_false_iff.mpr c5
   subst c5
   have H1 : ((tabardref1_Trim.f k l0).bind fun t519 => (if 0 ≤ (t519.length : Int) then (if ((t519.length : Int) : Int).toNat ≤ 70368744177664 then (tabardref1_Shr.l0 k a1 t519 (List.replicate ((t519.length : Int) : Int).toNat 0) false 0) else (none)) else (none))) = some (r1,r2,r3) := by rw [if_neg (show ¬ (false = true) by decide)] at H;exact H
   clear H
   have H := H1
   clear H1
   replace H := Option.bind_eq_some_iff.mp H
   obtain ⟨t519,A70,H⟩ := H
   replace H : (if 0 ≤ (t519.length : Int) then (if ((t519.length : Int) : Int).toNat ≤ 70368744177664 then (tabardref1_Shr.l0 k a1 t519 (List.replicate ((t519.length : Int) : Int).toNat 0) false 0) else (none)) else (none)) = some (r1,r2,r3) := H
   have A7 := Aside0.mk A70
   clear A70
   by_cases c8 : 0 ≤ (t519.length : Int)
   ·rw [if_pos c8] at H
    have c8b0 := eq_true c8
    have c8b1 : decide (0 ≤ (t519.length : Int)) = true := decide_eq_true c8
    clear c8
    by_cases c9 : ((t519.length : Int) : Int).toNat ≤ 70368744177664
    ·rw [if_pos c9] at H
     have c9b0 := eq_true c9
     have c9b1 : decide (((t519.length : Int) : Int).toNat ≤ 70368744177664) = true := decide_eq_true c9
     clear c9
     obtain ⟨y522,hy522⟩ : ∃ y_ : List Int,y_ = (List.replicate ((t519.length : Int) : Int).toNat 0) := ⟨_,rfl⟩
     replace H : (tabardref1_Shr.l0 k a1 t519 y522 false 0) = some (r1,r2,r3) := by first | (rw [hy522];with_reducible exact H) | (have H2_ := (Option.bind_some _ _).symm.trans H;rw [hy522];with_reducible exact H2_) | (have H2_ := (Option.bind_some _ _).symm.trans H;with_reducible exact H2_) | with_reducible exact H | (rw [hy522];exact H) | exact H
     have Ny522 := Aside0.mk hy522
     clear hy522
     have H' := Aside0.mk H
     clear H
     go_enter Tryz.func30,Tryz.ntmps30
     go_wp2_with (first | ((with_reducible refine gate_callee (f := 43) rfl ?_);refine goesL_ (some 15) rfl rfl Tryz.func43 (by kernel_rfl) rfl #[.slice A0 l0.length c0] rfl am_ ?_;(with_reducible refine (tabardref1_Big.calls k _ _ l0 false _ ?side1 ?side2 A4.out).mono ?_);(case side1 => exact ca_ HR0.out);(case side2 => exact HC0.out);rintro e w10 ⟨rfl,hb⟩;refine ⟨_,rfl,?_⟩;replace HB := Aside0.mk (below_step bl_ hb);(try clear hb);(try clear hb2);(try clear hk);(try clear hi)) | ((with_reducible refine gate_callee (f := 10) rfl ?_);refine goesL_ (some 17) rfl rfl Tryz.func10 (by kernel_rfl) rfl #[.slice A0 l0.length c0] rfl am_ ?_;(with_reducible refine (tabardref1_Trim.calls k _ _ l0 t519 _ ?side1 ?side2 A7.out).mono ?_);(case side1 => exact ca_ (Kd.C_below HR0.out HB.out));(case side2 => exact HC0.out);rintro e w11 ⟨v520,rfl,ho0,hb⟩;refine ⟨_,rfl,?_⟩;have HO521 := Aside0.mk (Kd.R_lower ho0 (below_size bl_));replace HB := Aside0.mk (below_step bl_ hb);(try clear hb);(try clear hb2);(try clear hk);(try clear hi);(try clear ho0);obtain ⟨Ao12,co12,eo12⟩ := Kd.R_slice HO521.out;subst eo12) | ((with_reducible refine gate_dst (N := 20) rfl ?_);refine Kd.R_make (Kd.int .u32) _ 63 rfl (N := 20) rfl 22 _ _ rfl (t519.length : Int) rfl rfl Tryz.underlying22 (.int .u32 0) 4 info63 rfl (by decide) (by omega) 0 (ok := fun _ => True) (okp := fun _ => True) rfl (fun _ hk => hk) trivial od_ (Nat.le_trans (Nat.mul_le_mul_right _ (od_ : (t519.length : Int).toNat ≤ 70368744177664)) (by omega)) (Below.refl _ _) (Nat.le_refl _) ?_;intro v523 w13 ho14 hb hg_ hnew_;clear hg_ hnew_;(first | rw [← Ny522.out] at ho14 | (simp only [Int.reduceToNat] at ho14;rw [← Ny522.out] at ho14));have HO524 := Aside0.mk (Kd.R_lower (Kd.R_new' ho14 (Kd.R_lt (ra_ HO521.out))) (below_size bl_));replace HO521 := Aside0.mk (Kd.R_elder' (ra_ HO521.out) (Kd.R_base ho14) hb);replace HB := Aside0.mk (below_step bl_ hb);clear hb ho14))
     go_loopg [9,10] k (fun kq v9 v10 w' => ∃ (x8_1 : List Int) (x9_1 : Bool) (x10_1 : Int),v9 = .bool x9_1 ∧ v10 = .int .i64 x10_1 ∧ Aside0 (tabardref1_Shr.l0 kq a1 t519 x8_1 x9_1 x10_1 = some (r1,r2,r3)) ∧ Aside0 (kq ≤ k) ∧ Aside0 (Kd.R (Kd.int .u32) 63 w' w.heap.size (fun k_ => some k_ ≠ (v523 : Value).ownBlock) (.slice Ao12 t519.length co12) t519) ∧ Aside0 (Kd.R (Kd.int .u32) 63 w' w.heap.size (fun k_ => some k_ ≠ ((.slice Ao12 t519.length co12) : Value).ownBlock) v523 x8_1) ∧ Aside0 (Below w.heap.size w w'))
     case atStart => exact ⟨(y522),(false),(0),(by first | rfl | (simp;done) | (simp [*];done)),(by first | rfl | (simp;done) | (simp [*];done)),H',⟨Nat.le_refl _⟩,⟨by (with_reducible repeat (first | apply Kd.R_alloc | apply Kd.R_drewN | apply Kd.R_drew));exact Kd.R_mono HO521.out (fun _ hk => hk.2)⟩,⟨by (with_reducible repeat (first | apply Kd.R_alloc | apply Kd.R_drewN | apply Kd.R_drew));exact Kd.R_mono HO524.out (fun _ hk => hk.2)⟩,⟨by repeat (first | (with_reducible first | exact HB.out | apply below_alloc | apply pw_below_drewN | apply below_drew1) | exact HB.out)⟩⟩
     case round =>
      clear H'
      try clear c1
      try clear p2
      try clear c3
      try clear c3b0
      try clear c4
      try clear c5
      try clear c8
      try clear c8b0
      try clear c8b1
      try clear c9
      try clear c9b0
      try clear c9b1
      try clear c10
      obtain ⟨x8_1,x9_1,x10_1,rfl,rfl,HA,HK1,HO_7,HO_8,HB⟩ := hrel
      cases gk with
      | zero => exact absurd HA.out (by simp [tabardref1_Shr.l0])
      | succ k1 =>
       have H := HA.out
       clear HA
       simp only [tabardref1_Shr.l0] at H
       by_cases c15 : x10_1 < (wrap64 (32 * (t519.length : Int)))
       ·rw [if_pos c15] at H
        have c15b0 : decide (x10_1 < (wrap64 (32 * (t519.length : Int)))) = true := decide_eq_true c15
        clear c15
        replace H := Option.bind_eq_some_iff.mp H
        obtain ⟨t528,A160,H⟩ := H
        replace H : (if t528 = true then (tabardref1_Shr.j1 k1 a1 t519 x8_1 x9_1 x10_1 t528 (decide (x10_1 < a1))) else (tabardref1_Shr.j1 k1 a1 t519 x8_1 x9_1 x10_1 t528 false)) = some (r1,r2,r3) := H
        have A16 := Aside0.mk A160
        clear A160
        have HC17 := Aside0.mk H
        clear H
        go_upto_region 12 with (first | ((with_reducible refine gate_callee (f := 54) rfl ?_);refine goesL_ (some 30) rfl rfl Tryz.func54 (by kernel_rfl) rfl #[.slice Ao12 t519.length co12,.int .i64 x10_1] rfl am_ ?_;(with_reducible refine (tabardref1_Bit.calls _ _ t519 x10_1 t528 _ ?side1 ?side2 A16.out).mono ?_);(case side1 => exact ca_ (Kd.R_reads' HO_7.out).2.2);(case side2 => exact (Kd.R_reads' HO_7.out).2.1);rintro e w' ⟨rfl,⟨nd,rfl⟩⟩;refine ⟨_,rfl,?_⟩))
        (try simp only [Act.put,List.setIfInBounds_toArray,List.set_cons_zero,List.set_cons_succ])
        go_cut [36] (fun v36 wc => ∃ (kq : Nat) (x36_16 : Bool),v36 = .bool x36_16 ∧ Aside0 (tabardref1_Shr.j1 kq a1 t519 x8_1 x9_1 x10_1 t528 x36_16 = some (r1,r2,r3)) ∧ Aside0 (kq ≤ k1) ∧ Aside0 (Kd.R (Kd.int .u32) 63 wc w.heap.size (fun k_ => some k_ ≠ (v523 : Value).ownBlock) (.slice Ao12 t519.length co12) t519) ∧ Aside0 (Kd.R (Kd.int .u32) 63 wc w.heap.size (fun k_ => some k_ ≠ ((.slice Ao12 t519.length co12) : Value).ownBlock) v523 x8_1) ∧ Aside0 (Below w.heap.size w wc))
        case first =>
         have H := HC17.out
         clear HC17
         by_cases c18 : t528 = true
         ·subst c18
          have H1 : (tabardref1_Shr.j1 k1 a1 t519 x8_1 x9_1 x10_1 true (decide (x10_1 < a1))) = some (r1,r2,r3) := by rw [if_pos rfl] at H;exact H
          clear H
          have H := H1
          clear H1
          have H' := Aside0.mk H
          clear H
          go_wp2
          go_meet
          case rel => exact ⟨_,(decide (x10_1 < a1)),(by first | rfl | (simp;done) | (simp [*];done)),(by first | exact H' | (rw [hji22];exact H') | (rw [hji25];exact H') | (rw [hji27];exact H') | (rw [hji34];exact H') | (rw [hji37];exact H') | (rw [hji39];exact H')),⟨by have := HK1.out;first | omega | exact Nat.le_refl _⟩,⟨by (with_reducible repeat (first | apply Kd.R_alloc | apply Kd.R_drewN | apply Kd.R_drew));exact HO_7.out⟩,⟨by (with_reducible repeat (first | apply Kd.R_alloc | apply Kd.R_drewN | apply Kd.R_drew));exact HO_8.out⟩,⟨by repeat (first | (with_reducible first | exact HB.out | apply below_alloc | apply pw_below_drewN | apply below_drew1) | exact HB.out)⟩⟩
         ·replace c18 := Bool.eq_false_iff.mpr c18
          subst c18
          have H1 : (tabardref1_Shr.j1 k1 a1 t519 x8_1 x9_1 x10_1 false false) = some (r1,r2,r3) := by rw [if_neg (show ¬ (false = true) by decide)] at H;exact H
          clear H
          have H := H1
          clear H1
          have H' := Aside0.mk H
          clear H
          go_wp2
          go_meet
          case rel => exact ⟨_,(false),(by first | rfl | (simp;done) | (simp [*];done)),(by first | exact H' | (rw [hji22];exact H') | (rw [hji25];exact H') | (rw [hji27];exact H') | (rw [hji34];exact H') | (rw [hji37];exact H') | (rw [hji39];exact H')),⟨by have := HK1.out;first | omega | exact Nat.le_refl _⟩,⟨by (with_reducible repeat (first | apply Kd.R_alloc | apply Kd.R_drewN | apply Kd.R_drew));exact HO_7.out⟩,⟨by (with_reducible repeat (first | apply Kd.R_alloc | apply Kd.R_drewN | apply Kd.R_drew));exact HO_8.out⟩,⟨by repeat (first | (with_reducible first | exact HB.out | apply below_alloc | apply pw_below_drewN | apply below_drew1) | exact HB.out)⟩⟩
        case rest =>
         clear HC17
         try clear c1
         try clear p2
         try clear c3
         try clear c3b0
         try clear c4
         try clear c5
         try clear p6
         try clear c8
         try clear c8b0
         try clear c8b1
         try clear c9
         try clear c9b0
         try clear c9b1
         try clear c10
         try clear c15
         try clear c15b0
         try clear c18
         try clear p2
         obtain ⟨kq,x36_16,rfl,HA,HJ16,HO_7,HO_8,HB⟩ := hcut
         cases kq with
         | zero => exact absurd HA.out (by simp [tabardref1_Shr.j1])
         | succ kj16 =>
          have H := HA.out
          clear HA
          simp only [tabardref1_Shr.j1] at H
          by_cases c19 : x36_16 = true
          ·subst c19
           have H1 : (if t528 = true then (if x10_1 ≥ a1 then (if 0 ≤ (wrap64 (Int.tdiv (wrap64 (x10_1 - a1)) 32)) then (if (wrap64 (Int.tdiv (wrap64 (x10_1 - a1)) 32)) < (x8_1.length : Int) then (if 0 ≤ (IntKind.u64.wrap (Int.tmod (wrap64 (x10_1 - a1)) 32)) then (tabardref1_Shr.l0 kj16 a1 t519 (x8_1.set ((wrap64 (Int.tdiv (wrap64 (x10_1 - a1)) 32)) : Int).toNat (Go.bits .or .u32 (rd x8_1 (wrap64 (Int.tdiv (wrap64 (x10_1 - a1)) 32))) (shl .u32 1 (IntKind.u64.wrap (Int.tmod (wrap64 (x10_1 - a1)) 32))))) true (wrap64 (x10_1 + 1))) else (none)) else (none)) else (none)) else (tabardref1_Shr.l0 kj16 a1 t519 x8_1 true (wrap64 (x10_1 + 1)))) else (tabardref1_Shr.l0 kj16 a1 t519 x8_1 true (wrap64 (x10_1 + 1)))) = some (r1,r2,r3) := by rw [if_pos rfl] at H;exact H
           clear H
           have H := H1
           clear H1
           by_cases c20 : t528 = true
           ·subst c20
            have H1 : (if x10_1 ≥ a1 then (if 0 ≤ (wrap64 (Int.tdiv (wrap64 (x10_1 - a1)) 32)) then (if (wrap64 (Int.tdiv (wrap64 (x10_1 - a1)) 32)) < (x8_1.length : Int) then (if 0 ≤ (IntKind.u64.wrap (Int.tmod (wrap64 (x10_1 - a1)) 32)) then (tabardref1_Shr.l0 kj16 a1 t519 (x8_1.set ((wrap64 (Int.tdiv (wrap64 (x10_1 - a1)) 32)) : Int).toNat (Go.bits .or .u32 (rd x8_1 (wrap64 (Int.tdiv (wrap64 (x10_1 - a1)) 32))) (shl .u32 1 (IntKind.u64.wrap (Int.tmod (wrap64 (x10_1 - a1)) 32))))) true (wrap64 (x10_1 + 1))) else (none)) else (none)) else (none)) else (tabardref1_Shr.l0 kj16 a1 t519 x8_1 true (wrap64 (x10_1 + 1)))) = some (r1,r2,r3) := by rw [if_pos rfl] at H;exact H
            clear H
            have H := H1
            clear H1
            by_cases c21 : x10_1 ≥ a1
            ·rw [if_pos c21] at H
             have c21b0 : decide (a1 ≤ x10_1) = true := decide_eq_true c21
             clear c21
             obtain ⟨ji22,hji22⟩ : ∃ j_ : Int,(wrap64 (Int.tdiv (wrap64 (x10_1 - a1)) 32)) = j_ := ⟨_,rfl⟩
             replace H : (if 0 ≤ (ji22) then (if (ji22) < (x8_1.length : Int) then (if 0 ≤ (IntKind.u64.wrap (Int.tmod (wrap64 (x10_1 - a1)) 32)) then (tabardref1_Shr.l0 kj16 a1 t519 (x8_1.set ((ji22) : Int).toNat (Go.bits .or .u32 (rd x8_1 (ji22)) (shl .u32 1 (IntKind.u64.wrap (Int.tmod (wrap64 (x10_1 - a1)) 32))))) true (wrap64 (x10_1 + 1))) else (none)) else (none)) else (none)) = some (r1,r2,r3) := by first | (rw [hji22] at H;exact H) | (simp only [hji22] at H ⊢;exact H)
             have hji22w : (IntKind.i64.wrap (Int.tdiv (wrap64 (x10_1 - a1)) 32)) = ji22 := (i64_w _).trans hji22
             by_cases c23 : 0 ≤ (ji22)
             ·rw [if_pos c23] at H
              have c23b0 : decide (0 ≤ (ji22)) = true := decide_eq_true c23
              clear c23
              by_cases c24 : (ji22) < (x8_1.length : Int)
              ·rw [if_pos c24] at H
               have c24b0 : decide ((ji22) < (x8_1.length : Int)) = true := decide_eq_true c24
               clear c24
               obtain ⟨ji25,hji25⟩ : ∃ j_ : Int,(IntKind.u64.wrap (Int.tmod (wrap64 (x10_1 - a1)) 32)) = j_ := ⟨_,rfl⟩
               replace H : (if 0 ≤ (ji25) then (tabardref1_Shr.l0 kj16 a1 t519 (x8_1.set ((ji22) : Int).toNat (Go.bits .or .u32 (rd x8_1 (ji22)) (shl .u32 1 (ji25)))) true (wrap64 (x10_1 + 1))) else (none)) = some (r1,r2,r3) := by first | (rw [hji25] at H;exact H) | (simp only [hji25] at H ⊢;exact H)
               by_cases c26 : 0 ≤ (ji25)
               ·rw [if_pos c26] at H
                have c26b0 := eq_true c26
                have c26b1 : decide (0 ≤ (ji25)) = true := decide_eq_true c26
                clear c26
                obtain ⟨ji27,hji27⟩ : ∃ j_ : Int,(shl .u32 1 (ji25)) = j_ := ⟨_,rfl⟩
                replace H : (tabardref1_Shr.l0 kj16 a1 t519 (x8_1.set ((ji22) : Int).toNat (Go.bits .or .u32 (rd x8_1 (ji22)) (ji27))) true (wrap64 (x10_1 + 1))) = some (r1,r2,r3) := by first | (rw [hji27] at H;exact H) | (simp only [hji27] at H ⊢;exact H)
                have hji27_ : (IntKind.u32.wrap (1 * 2 ^ min (ji25).toNat 32)) = ji27 := hji27
                have hji27z : (ji25) ≤ 32 → (IntKind.u32.wrap (1 * 2 ^ (ji25).toNat)) = ji27 := shl_small hji27
                have hji27u : (IntKind.u32.wrap (2 ^ min (ji25).toNat 32)) = ji27 := by have h_ := hji27_;rw [Int.one_mul] at h_;exact h_
                have hji27v : (ji25) ≤ 32 → (IntKind.u32.wrap (2 ^ (ji25).toNat)) = ji27 := fun hle_ => by have h_ := hji27z hle_;rw [Int.one_mul] at h_;exact h_
                obtain ⟨y530,hy530⟩ : ∃ y_ : List Int,y_ = (x8_1.set ((ji22) : Int).toNat (Go.bits .or .u32 (rd x8_1 (ji22)) (ji27))) := ⟨_,rfl⟩
                replace H : (tabardref1_Shr.l0 kj16 a1 t519 y530 true (wrap64 (x10_1 + 1))) = some (r1,r2,r3) := by first | (rw [hy530];with_reducible exact H) | (have H2_ := (Option.bind_some _ _).symm.trans H;rw [hy530];with_reducible exact H2_) | (have H2_ := (Option.bind_some _ _).symm.trans H;with_reducible exact H2_) | with_reducible exact H | (rw [hy530];exact H) | exact H
                have Ny530 := Aside0.mk hy530
                clear hy530
                have H' := Aside0.mk H
                clear H
                obtain ⟨Ao29,co29,eo29⟩ := Kd.R_slice HO_8.out
                subst eo29
                have p529 : 0 ≤ ((ji22) : Int) := od_
                have q529 : (ji22) < (x8_1.length : Int) := od_
                obtain ⟨ad529,e529,hx529_0⟩ := Kd.at_int (Kd.R_reads' HO_8.out).2.2 (ji22) p529 q529
                cases e529
                replace p529 := eq_true p529
                replace q529 := eq_true q529
                have p28 : 0 ≤ ((ji22) : Int) := od_
                have q28 : ((ji22) : Int) < ((x8_1.length : Int) : Int) := od_
                obtain ⟨go28,co28,eo28,gb28,gl28,cl28,HG28⟩ := Kd.R_form HO_8.out (by omega)
                (first | cases eo28 | (injection eo28 with ea_ en_ ec_;(first | subst ea_ | (injection ea_ with ea_;subst ea_));subst ec_;clear en_))
                have GB28 := Aside0.mk gb28
                have GG28 := Aside0.mk HG28
                clear gb28 gl28 HG28
                (first | simp only [add_plain] at hx529_0 | skip)
                obtain ⟨hx28_0,hf28_0⟩ := Kd.R_celln 0 HO_8.out ((ji22) : Int) p28 q28
                replace p28 := eq_true p28
                replace q28 := eq_true q28
                have HP30 := Kd.R_putg HO_8.out ((ji22) : Int) (Go.bits .or .u32 (rd x8_1 (ji22)) (ji27))
                go_wp2_with (first | ((with_reducible refine gate_store (t := 63) (p := 62) rfl ?_);refine store_event (t := 63) (p := 62) (v := ?vo_w31) (w1 := (wc.setCell ⟨go28,((ji22) : Int).toNat,none⟩ (.int .u32 (Go.bits .or .u32 (rd x8_1 (ji22)) (ji27))))) ?hg ?ho ?hn ?hr ?_;(case ho => rfl);(case hg => rfl);(case hn => rfl);(case hr => first | (go_simp;done) | (go_simp;rfl));intro w31 hw;have hg : wc.grownBy w31 (some go28) := (by rw [hw];exact HP30.2);have hp_ : Kd.R (Kd.int .u32) 63 w31 w.heap.size (fun k_ => some k_ ≠ (.slice Ao12 t519.length co12 : Value).ownBlock) (.slice (some ⟨go28,0,none⟩) x8_1.length co29) y530 := (by rw [hw,Ny530.out];exact HP30.1);clear HP30;replace HO_7 := Aside0.mk (Kd.R_after (v := (.slice (some ⟨go28,0,none⟩) x8_1.length co29)) (v1 := (.slice (some ⟨go28,0,none⟩) x8_1.length co29)) (ok := (fun _ => True)) (by (with_reducible repeat (first | apply Kd.R_alloc | apply Kd.R_drewN | apply Kd.R_drew));exact Kd.R_mono HO_7.out (fun _ hk => ⟨trivial,hk⟩)) hg (.inl rfl));replace HO_8 := Aside0.mk (hp_);replace HB := Aside0.mk ((by rw [hw];exact below_set (HB.out) GB28.out : Below w.heap.size w w31));clear hg hw hp_))
                (first | go_roundg kj16 | (simp only [← hji22,← hji25,← hji27];go_roundg kj16))
                case measure => have := HK1.out;have := HJ16.out;omega
                case rel => exact ⟨(y530),(true),(wrap64 (x10_1 + 1)),(by first | rfl | (simp;done) | (simp [*];done)),(by first | rfl | (simp;done) | (simp [*];done)),(by first | exact H' | (rw [hji22];exact H') | (rw [hji25];exact H') | (rw [hji27];exact H') | (rw [hji34];exact H') | (rw [hji37];exact H') | (rw [hji39];exact H')),⟨by have := HK1.out;have := HJ16.out;omega⟩,⟨by (with_reducible repeat (first | apply Kd.R_alloc | apply Kd.R_drewN | apply Kd.R_drew));exact Kd.R_mono HO_7.out (fun _ hk => hk.2)⟩,⟨by (with_reducible repeat (first | apply Kd.R_alloc | apply Kd.R_drewN | apply Kd.R_drew));exact HO_8.out⟩,⟨by repeat (first | (with_reducible first | exact HB.out | apply below_alloc | apply pw_below_drewN | apply below_drew1) | exact HB.out)⟩⟩
               ·rw [if_neg c26] at H
                exact absurd H (by simp)
              ·rw [if_neg c24] at H
               exact absurd H (by simp)
             ·rw [if_neg c23] at H
              exact absurd H (by simp)
            ·rw [if_neg c21] at H
             have c21b0 : decide (a1 ≤ x10_1) = false := decide_eq_false c21
             clear c21
             have H' := Aside0.mk H
             clear H
             go_wp2
             go_roundg kj16
             case measure => have := HK1.out;have := HJ16.out;omega
             case rel => exact ⟨(x8_1),(true),(wrap64 (x10_1 + 1)),(by first | rfl | (simp;done) | (simp [*];done)),(by first | rfl | (simp;done) | (simp [*];done)),(by first | exact H' | (rw [hji22];exact H') | (rw [hji25];exact H') | (rw [hji27];exact H') | (rw [hji34];exact H') | (rw [hji37];exact H') | (rw [hji39];exact H')),⟨by have := HK1.out;have := HJ16.out;omega⟩,⟨by (with_reducible repeat (first | apply Kd.R_alloc | apply Kd.R_drewN | apply Kd.R_drew));exact HO_7.out⟩,⟨by (with_reducible repeat (first | apply Kd.R_alloc | apply Kd.R_drewN | apply Kd.R_drew));exact HO_8.out⟩,⟨by repeat (first | (with_reducible first | exact HB.out | apply below_alloc | apply pw_below_drewN | apply below_drew1) | exact HB.out)⟩⟩
           ·replace c20 := Bool.eq_false_iff.mpr c20
            subst c20
            have H1 : (tabardref1_Shr.l0 kj16 a1 t519 x8_1 true (wrap64 (x10_1 + 1))) = some (r1,r2,r3) := by rw [if_neg (show ¬ (false = true) by decide)] at H;exact H
            clear H
            have H := H1
            clear H1
            have H' := Aside0.mk H
            clear H
            go_wp2
            go_roundg kj16
            case measure => have := HK1.out;have := HJ16.out;omega
            case rel => exact ⟨(x8_1),(true),(wrap64 (x10_1 + 1)),(by first | rfl | (simp;done) | (simp [*];done)),(by first | rfl | (simp;done) | (simp [*];done)),(by first | exact H' | (rw [hji22];exact H') | (rw [hji25];exact H') | (rw [hji27];exact H') | (rw [hji34];exact H') | (rw [hji37];exact H') | (rw [hji39];exact H')),⟨by have := HK1.out;have := HJ16.out;omega⟩,⟨by (with_reducible repeat (first | apply Kd.R_alloc | apply Kd.R_drewN | apply Kd.R_drew));exact HO_7.out⟩,⟨by (with_reducible repeat (first | apply Kd.R_alloc | apply Kd.R_drewN | apply Kd.R_drew));exact HO_8.out⟩,⟨by repeat (first | (with_reducible first | exact HB.out | apply below_alloc | apply pw_below_drewN | apply below_drew1) | exact HB.out)⟩⟩
          ·replace c19 := Bool.eq_false_iff.mpr c19
           subst c19
           have H1 : (if t528 = true then (if x10_1 ≥ a1 then (if 0 ≤ (wrap64 (Int.tdiv (wrap64 (x10_1 - a1)) 32)) then (if (wrap64 (Int.tdiv (wrap64 (x10_1 - a1)) 32)) < (x8_1.length : Int) then (if 0 ≤ (IntKind.u64.wrap (Int.tmod (wrap64 (x10_1 - a1)) 32)) then (tabardref1_Shr.l0 kj16 a1 t519 (x8_1.set ((wrap64 (Int.tdiv (wrap64 (x10_1 - a1)) 32)) : Int).toNat (Go.bits .or .u32 (rd x8_1 (wrap64 (Int.tdiv (wrap64 (x10_1 - a1)) 32))) (shl .u32 1 (IntKind.u64.wrap (Int.tmod (wrap64 (x10_1 - a1)) 32))))) x9_1 (wrap64 (x10_1 + 1))) else (none)) else (none)) else (none)) else (tabardref1_Shr.l0 kj16 a1 t519 x8_1 x9_1 (wrap64 (x10_1 + 1)))) else (tabardref1_Shr.l0 kj16 a1 t519 x8_1 x9_1 (wrap64 (x10_1 + 1)))) = some (r1,r2,r3) := by rw [if_neg (show ¬ (false = true) by decide)] at H;exact H
           clear H
           have H := H1
           clear H1
           by_cases c32 : t528 = true
           ·subst c32
            have H1 : (if x10_1 ≥ a1 then (if 0 ≤ (wrap64 (Int.tdiv (wrap64 (x10_1 - a1)) 32)) then (if (wrap64 (Int.tdiv (wrap64 (x10_1 - a1)) 32)) < (x8_1.length : Int) then (if 0 ≤ (IntKind.u64.wrap (Int.tmod (wrap64 (x10_1 - a1)) 32)) then (tabardref1_Shr.l0 kj16 a1 t519 (x8_1.set ((wrap64 (Int.tdiv (wrap64 (x10_1 - a1)) 32)) : Int).toNat (Go.bits .or .u32 (rd x8_1 (wrap64 (Int.tdiv (wrap64 (x10_1 - a1)) 32))) (shl .u32 1 (IntKind.u64.wrap (Int.tmod (wrap64 (x10_1 - a1)) 32))))) x9_1 (wrap64 (x10_1 + 1))) else (none)) else (none)) else (none)) else (tabardref1_Shr.l0 kj16 a1 t519 x8_1 x9_1 (wrap64 (x10_1 + 1)))) = some (r1,r2,r3) := by rw [if_pos rfl] at H;exact H
            clear H
            have H := H1
            clear H1
            by_cases c33 : x10_1 ≥ a1
            ·rw [if_pos c33] at H
             have c33b0 : decide (a1 ≤ x10_1) = true := decide_eq_true c33
             clear c33
             obtain ⟨ji34,hji34⟩ : ∃ j_ : Int,(wrap64 (Int.tdiv (wrap64 (x10_1 - a1)) 32)) = j_ := ⟨_,rfl⟩
             replace H : (if 0 ≤ (ji34) then (if (ji34) < (x8_1.length : Int) then (if 0 ≤ (IntKind.u64.wrap (Int.tmod (wrap64 (x10_1 - a1)) 32)) then (tabardref1_Shr.l0 kj16 a1 t519 (x8_1.set ((ji34) : Int).toNat (Go.bits .or .u32 (rd x8_1 (ji34)) (shl .u32 1 (IntKind.u64.wrap (Int.tmod (wrap64 (x10_1 - a1)) 32))))) x9_1 (wrap64 (x10_1 + 1))) else (none)) else (none)) else (none)) = some (r1,r2,r3) := by first | (rw [hji34] at H;exact H) | (simp only [hji34] at H ⊢;exact H)
             have hji34w : (IntKind.i64.wrap (Int.tdiv (wrap64 (x10_1 - a1)) 32)) = ji34 := (i64_w _).trans hji34
             by_cases c35 : 0 ≤ (ji34)
             ·rw [if_pos c35] at H
              have c35b0 : decide (0 ≤ (ji34)) = true := decide_eq_true c35
              clear c35
              by_cases c36 : (ji34) < (x8_1.length : Int)
              ·rw [if_pos c36] at H
               have c36b0 : decide ((ji34) < (x8_1.length : Int)) = true := decide_eq_true c36
               clear c36
               obtain ⟨ji37,hji37⟩ : ∃ j_ : Int,(IntKind.u64.wrap (Int.tmod (wrap64 (x10_1 - a1)) 32)) = j_ := ⟨_,rfl⟩
               replace H : (if 0 ≤ (ji37) then (tabardref1_Shr.l0 kj16 a1 t519 (x8_1.set ((ji34) : Int).toNat (Go.bits .or .u32 (rd x8_1 (ji34)) (shl .u32 1 (ji37)))) x9_1 (wrap64 (x10_1 + 1))) else (none)) = some (r1,r2,r3) := by first | (rw [hji37] at H;exact H) | (simp only [hji37] at H ⊢;exact H)
               by_cases c38 : 0 ≤ (ji37)
               ·rw [if_pos c38] at H
                have c38b0 := eq_true c38
                have c38b1 : decide (0 ≤ (ji37)) = true := decide_eq_true c38
                clear c38
                obtain ⟨ji39,hji39⟩ : ∃ j_ : Int,(shl .u32 1 (ji37)) = j_ := ⟨_,rfl⟩
                replace H : (tabardref1_Shr.l0 kj16 a1 t519 (x8_1.set ((ji34) : Int).toNat (Go.bits .or .u32 (rd x8_1 (ji34)) (ji39))) x9_1 (wrap64 (x10_1 + 1))) = some (r1,r2,r3) := by first | (rw [hji39] at H;exact H) | (simp only [hji39] at H ⊢;exact H)
                have hji39_ : (IntKind.u32.wrap (1 * 2 ^ min (ji37).toNat 32)) = ji39 := hji39
                have hji39z : (ji37) ≤ 32 → (IntKind.u32.wrap (1 * 2 ^ (ji37).toNat)) = ji39 := shl_small hji39
                have hji39u : (IntKind.u32.wrap (2 ^ min (ji37).toNat 32)) = ji39 := by have h_ := hji39_;rw [Int.one_mul] at h_;exact h_
                have hji39v : (ji37) ≤ 32 → (IntKind.u32.wrap (2 ^ (ji37).toNat)) = ji39 := fun hle_ => by have h_ := hji39z hle_;rw [Int.one_mul] at h_;exact h_
                obtain ⟨y532,hy532⟩ : ∃ y_ : List Int,y_ = (x8_1.set ((ji34) : Int).toNat (Go.bits .or .u32 (rd x8_1 (ji34)) (ji39))) := ⟨_,rfl⟩
                replace H : (tabardref1_Shr.l0 kj16 a1 t519 y532 x9_1 (wrap64 (x10_1 + 1))) = some (r1,r2,r3) := by first | (rw [hy532];with_reducible exact H) | (have H2_ := (Option.bind_some _ _).symm.trans H;rw [hy532];with_reducible exact H2_) | (have H2_ := (Option.bind_some _ _).symm.trans H;with_reducible exact H2_) | with_reducible exact H | (rw [hy532];exact H) | exact H
                have Ny532 := Aside0.mk hy532
                clear hy532
                have H' := Aside0.mk H
                clear H
                obtain ⟨Ao41,co41,eo41⟩ := Kd.R_slice HO_8.out
                subst eo41
                have p531 : 0 ≤ ((ji34) : Int) := od_
                have q531 : (ji34) < (x8_1.length : Int) := od_
                obtain ⟨ad531,e531,hx531_0⟩ := Kd.at_int (Kd.R_reads' HO_8.out).2.2 (ji34) p531 q531
                cases e531
                replace p531 := eq_true p531
                replace q531 := eq_true q531
                have p40 : 0 ≤ ((ji34) : Int) := od_
                have q40 : ((ji34) : Int) < ((x8_1.length : Int) : Int) := od_
                obtain ⟨go40,co40,eo40,gb40,gl40,cl40,HG40⟩ := Kd.R_form HO_8.out (by omega)
                (first | cases eo40 | (injection eo40 with ea_ en_ ec_;(first | subst ea_ | (injection ea_ with ea_;subst ea_));subst ec_;clear en_))
                have GB40 := Aside0.mk gb40
                have GG40 := Aside0.mk HG40
                clear gb40 gl40 HG40
                (first | simp only [add_plain] at hx531_0 | skip)
                obtain ⟨hx40_0,hf40_0⟩ := Kd.R_celln 0 HO_8.out ((ji34) : Int) p40 q40
                replace p40 := eq_true p40
                replace q40 := eq_true q40
                have HP42 := Kd.R_putg HO_8.out ((ji34) : Int) (Go.bits .or .u32 (rd x8_1 (ji34)) (ji39))
                go_wp2_with (first | ((with_reducible refine gate_store (t := 63) (p := 62) rfl ?_);refine store_event (t := 63) (p := 62) (v := ?vo_w43) (w1 := (wc.setCell ⟨go40,((ji34) : Int).toNat,none⟩ (.int .u32 (Go.bits .or .u32 (rd x8_1 (ji34)) (ji39))))) ?hg ?ho ?hn ?hr ?_;(case ho => rfl);(case hg => rfl);(case hn => rfl);(case hr => first | (go_simp;done) | (go_simp;rfl));intro w43 hw;have hg : wc.grownBy w43 (some go40) := (by rw [hw];exact HP42.2);have hp_ : Kd.R (Kd.int .u32) 63 w43 w.heap.size (fun k_ => some k_ ≠ (.slice Ao12 t519.length co12 : Value).ownBlock) (.slice (some ⟨go40,0,none⟩) x8_1.length co41) y532 := (by rw [hw,Ny532.out];exact HP42.1);clear HP42;replace HO_7 := Aside0.mk (Kd.R_after (v := (.slice (some ⟨go40,0,none⟩) x8_1.length co41)) (v1 := (.slice (some ⟨go40,0,none⟩) x8_1.length co41)) (ok := (fun _ => True)) (by (with_reducible repeat (first | apply Kd.R_alloc | apply Kd.R_drewN | apply Kd.R_drew));exact Kd.R_mono HO_7.out (fun _ hk => ⟨trivial,hk⟩)) hg (.inl rfl));replace HO_8 := Aside0.mk (hp_);replace HB := Aside0.mk ((by rw [hw];exact below_set (HB.out) GB40.out : Below w.heap.size w w43));clear hg hw hp_))
                (first | go_roundg kj16 | (simp only [← hji34,← hji37,← hji39];go_roundg kj16))
                case measure => have := HK1.out;have := HJ16.out;omega
                case rel => exact ⟨(y532),(x9_1),(wrap64 (x10_1 + 1)),(by first | rfl | (simp;done) | (simp [*];done)),(by first | rfl | (simp;done) | (simp [*];done)),(by first | exact H' | (rw [hji22];exact H') | (rw [hji25];exact H') | (rw [hji27];exact H') | (rw [hji34];exact H') | (rw [hji37];exact H') | (rw [hji39];exact H')),⟨by have := HK1.out;have := HJ16.out;omega⟩,⟨by (with_reducible repeat (first | apply Kd.R_alloc | apply Kd.R_drewN | apply Kd.R_drew));exact Kd.R_mono HO_7.out (fun _ hk => hk.2)⟩,⟨by (with_reducible repeat (first | apply Kd.R_alloc | apply Kd.R_drewN | apply Kd.R_drew));exact HO_8.out⟩,⟨by repeat (first | (with_reducible first | exact HB.out | apply below_alloc | apply pw_below_drewN | apply below_drew1) | exact HB.out)⟩⟩
               ·rw [if_neg c38] at H
                exact absurd H (by simp)
              ·rw [if_neg c36] at H
               exact absurd H (by simp)
             ·rw [if_neg c35] at H
              exact absurd H (by simp)
            ·rw [if_neg c33] at H
             have c33b0 : decide (a1 ≤ x10_1) = false := decide_eq_false c33
             clear c33
             have H' := Aside0.mk H
             clear H
             go_wp2
             go_roundg kj16
             case measure => have := HK1.out;have := HJ16.out;omega
             case rel => exact ⟨(x8_1),(x9_1),(wrap64 (x10_1 + 1)),(by first | rfl | (simp;done) | (simp [*];done)),(by first | rfl | (simp;done) | (simp [*];done)),(by first | exact H' | (rw [hji22];exact H') | (rw [hji25];exact H') | (rw [hji27];exact H') | (rw [hji34];exact H') | (rw [hji37];exact H') | (rw [hji39];exact H')),⟨by have := HK1.out;have := HJ16.out;omega⟩,⟨by (with_reducible repeat (first | apply Kd.R_alloc | apply Kd.R_drewN | apply Kd.R_drew));exact HO_7.out⟩,⟨by (with_reducible repeat (first | apply Kd.R_alloc | apply Kd.R_drewN | apply Kd.R_drew));exact HO_8.out⟩,⟨by repeat (first | (with_reducible first | exact HB.out | apply below_alloc | apply pw_below_drewN | apply below_drew1) | exact HB.out)⟩⟩
           ·replace c32 := Bool.eq_false_iff.mpr c32
            subst c32
            have H1 : (tabardref1_Shr.l0 kj16 a1 t519 x8_1 x9_1 (wrap64 (x10_1 + 1))) = some (r1,r2,r3) := by rw [if_neg (show ¬ (false = true) by decide)] at H;exact H
            clear H
            have H := H1
            clear H1
            have H' := Aside0.mk H
            clear H
            go_wp2
            go_roundg kj16
            case measure => have := HK1.out;have := HJ16.out;omega
            case rel => exact ⟨(x8_1),(x9_1),(wrap64 (x10_1 + 1)),(by first | rfl | (simp;done) | (simp [*];done)),(by first | rfl | (simp;done) | (simp [*];done)),(by first | exact H' | (rw [hji22];exact H') | (rw [hji25];exact H') | (rw [hji27];exact H') | (rw [hji34];exact H') | (rw [hji37];exact H') | (rw [hji39];exact H')),⟨by have := HK1.out;have := HJ16.out;omega⟩,⟨by (with_reducible repeat (first | apply Kd.R_alloc | apply Kd.R_drewN | apply Kd.R_drew));exact HO_7.out⟩,⟨by (with_reducible repeat (first | apply Kd.R_alloc | apply Kd.R_drewN | apply Kd.R_drew));exact HO_8.out⟩,⟨by repeat (first | (with_reducible first | exact HB.out | apply below_alloc | apply pw_below_drewN | apply below_drew1) | exact HB.out)⟩⟩
       ·rw [if_neg c15] at H
        have c15b0 : decide (x10_1 < (wrap64 (32 * (t519.length : Int)))) = false := decide_eq_false c15
        clear c15
        replace H := Option.bind_eq_some_iff.mp H
        obtain ⟨t525,A440,H⟩ := H
        replace H : (some (t525,x9_1,0)) = some (r1,r2,r3) := H
        have A44 := Aside0.mk A440
        clear A440
        simp only [Option.some.injEq,Prod.mk.injEq] at H
        obtain ⟨rfl,rfl,rfl⟩ := H
        obtain ⟨Ao45,co45,eo45⟩ := Kd.R_slice HO_8.out
        subst eo45
        go_wp2_with (first | ((with_reducible refine gate_callee (f := 10) rfl ?_);refine goesL_ (some 64) rfl rfl Tryz.func10 (by kernel_rfl) rfl #[.slice Ao45 x8_1.length co45] rfl am_ ?_;(with_reducible refine (tabardref1_Trim.calls k1 _ _ x8_1 t525 _ ?side1 ?side2 A44.out).mono ?_);(case side1 => exact ca_ (Kd.R_reads' HO_8.out).2.2);(case side2 => exact (Kd.R_reads' HO_8.out).2.1);rintro e w46 ⟨v526,rfl,ho0,hb⟩;refine ⟨_,rfl,?_⟩;have HO527 := Aside0.mk (Kd.R_lower (Kd.R_new' (Kd.R_new' ho0 (Kd.R_lt (ra_ HO_7.out))) (Kd.R_lt (ra_ HO_8.out))) (below_size bl_));replace HO_7 := Aside0.mk (Kd.R_elder' (ra_ HO_7.out) (Kd.R_base ho0) hb);replace HO_8 := Aside0.mk (Kd.R_elder' (ra_ HO_8.out) (Kd.R_base ho0) hb);replace HB := Aside0.mk (below_step bl_ hb);(try clear hb);(try clear hb2);(try clear hk);(try clear hi);(try clear ho0)))
        go_ret3
        exact ⟨_,by first | rfl | (simp [errW_none,errW_some] <;> rfl) | (simp [*,errW_none,errW_some] <;> rfl),by (with_reducible repeat (first | apply Kd.R_alloc | apply Kd.R_drewN | apply Kd.R_drew));exact Kd.R_mono HO527.out (fun _ hk => trivial),by repeat (first | (with_reducible first | exact HB.out | apply below_alloc | apply pw_below_drewN | apply below_drew1) | exact HB.out)⟩
    ·rw [if_neg c9] at H
     exact absurd H (by simp)
   ·rw [if_neg c8] at H
    exact absurd H (by simp)

/-! ### tabardref1_Pow: function 32 -/
mutual
def tabardref1_Pow.j0 : Nat → Int → Int → Bool → Option (List Int × Int)
 | 0,_,_,_ => none
 | k + 1,x0,x1,x17 => if x17 = true then (some (([] : List Int),1)) else ((some (([1] : List Int) : List Int)).bind fun y533 => (if x0 ≤ 1 then (if x0 = 0 then (if x1 > 0 then (some (([] : List Int),0)) else (some (y533,0))) else (some (y533,0))) else (tabardref1_Pow.l0 k x0 x1 y533 0)))
def tabardref1_Pow.l0 : Nat → Int → Int → List Int → Int → Option (List Int × Int)
 | 0,_,_,_,_ => none
 | k + 1,x0,x1,x6,x7 => if x7 < x1 then ((tabardref1_Times.f k x6 (([(x0) % 4294967296] : List Int))).bind fun t539 => ((tabardref1_Big.f k t539).bind fun t542 => (if t542 = true then (some (([] : List Int),2)) else (tabardref1_Pow.l0 k x0 x1 t539 (wrap64 (x7 + 1)))))) else (some (x6,0))
end
def tabardref1_Pow.f (k : Nat) (a0 : Int) (a1 : Int) : Option (List Int × Int) := if a0 < 0 then (tabardref1_Pow.j0 k a0 a1 true) else (if a0 > 1000000 then (tabardref1_Pow.j0 k a0 a1 true) else (tabardref1_Pow.j0 k a0 a1 (decide (a1 < 0))))
set_option maxHeartbeats 8000000 in
set_option maxRecDepth 100000 in
theorem tabardref1_Pow.calls (k : Nat) (a0 : Int) (a1 : Int) (r1 : List Int) (r2 : Int) (w : World) (h : tabardref1_Pow.f k a0 a1 = some (r1,r2)) :
  Calls Tryz.prog 32 #[.int .i64 a0,.int .i64 a1] w fun e w' => ∃ v0_ : Value,e = .returned (.tuple #[v0_,.int .i64 r2]) ∧ Kd.R (Kd.int .u32) 63 w' w.heap.size (fun _ => True) v0_ r1 ∧ Below w.heap.size w w' := by
 have HB := Aside0.mk (Below.refl w.heap.size w)
 have H : (if a0 < 0 then (tabardref1_Pow.j0 k a0 a1 true) else (if a0 > 1000000 then (tabardref1_Pow.j0 k a0 a1 true) else (tabardref1_Pow.j0 k a0 a1 (decide (a1 < 0))))) = some (r1,r2) := h
 clear h
 have HC3 := Aside0.mk H
 clear H
 go_enter Tryz.func32,Tryz.ntmps32
 go_upto_region 1 with (fail)
 go_cut [17] (fun v17 wc => ∃ (kq : Nat) (x17_2 : Bool),v17 = .bool x17_2 ∧ Aside0 (tabardref1_Pow.j0 kq a0 a1 x17_2 = some (r1,r2)) ∧ Aside0 (kq ≤ k) ∧ Aside0 (Below w.heap.size w wc))
 case first =>
  have H := HC3.out
  clear HC3
  by_cases c4 : a0 < 0
  ·rw [if_pos c4] at H
   have c4b0 : decide (a0 < 0) = true := decide_eq_true c4
   clear c4
   (first | rw [c4b0] | (simp only [i64_w,i32_w];rw [c4b0]) | rw [c4b1] | (simp only [i64_w,i32_w];rw [c4b1]) | skip)
   have H' := Aside0.mk H
   clear H
   go_wp2
   go_meet
   case rel => exact ⟨_,(true),(by first | rfl | (simp;done) | (simp [*];done)),H',⟨by first | omega | exact Nat.le_refl _⟩,⟨by repeat (first | (with_reducible first | exact HB.out | apply below_alloc | apply pw_below_drewN | apply below_drew1) | exact HB.out)⟩⟩
  ·rw [if_neg c4] at H
   have c4b0 : decide (a0 < 0) = false := decide_eq_false c4
   clear c4
   (first | rw [c4b0] | (simp only [i64_w,i32_w];rw [c4b0]) | rw [c4b1] | (simp only [i64_w,i32_w];rw [c4b1]) | skip)
   by_cases c5 : a0 > 1000000
   ·rw [if_pos c5] at H
    have c5b0 : decide (1000000 < a0) = true := decide_eq_true c5
    clear c5
    have H' := Aside0.mk H
    clear H
    go_wp2
    go_meet
    case rel => exact ⟨_,(true),(by first | rfl | (simp;done) | (simp [*];done)),H',⟨by first | omega | exact Nat.le_refl _⟩,⟨by repeat (first | (with_reducible first | exact HB.out | apply below_alloc | apply pw_below_drewN | apply below_drew1) | exact HB.out)⟩⟩
   ·rw [if_neg c5] at H
    have c5b0 : decide (1000000 < a0) = false := decide_eq_false c5
    clear c5
    have H' := Aside0.mk H
    clear H
    go_wp2
    go_meet
    case rel => exact ⟨_,(decide (a1 < 0)),(by first | rfl | (simp;done) | (simp [*];done)),H',⟨by first | omega | exact Nat.le_refl _⟩,⟨by repeat (first | (with_reducible first | exact HB.out | apply below_alloc | apply pw_below_drewN | apply below_drew1) | exact HB.out)⟩⟩
 case rest =>
  clear HC3
  try clear p2
  try clear c3
  try clear c4
  try clear c4b0
  try clear c4b1
  try clear c5
  try clear c5b0
  obtain ⟨kq,x17_2,rfl,HA,HJ2,HB⟩ := hcut
  cases kq with
  | zero => exact absurd HA.out (by simp [tabardref1_Pow.j0])
  | succ kj2 =>
   have H := HA.out
   clear HA
   simp only [tabardref1_Pow.j0] at H
   by_cases c6 : x17_2 = true
   ·subst c6
    have H1 : (some (([] : List Int),1)) = some (r1,r2) := by rw [if_pos rfl] at H;exact H
    clear H
    have H := H1
    clear H1
    simp only [Option.some.injEq,Prod.mk.injEq] at H
    obtain ⟨rfl,rfl⟩ := H
    go_wp2
    go_ret2
    exact ⟨_,by first | rfl | (simp [errW_none,errW_some] <;> rfl) | (simp [*,errW_none,errW_some] <;> rfl),by first | exact Kd.R_nil _ _ _ _ _ | exact Kd.N_nil _ _ _ _ _ | exact Kd.V_nil _ _ _ _ _ | exact Kd.Q_nil _ _ _ _ _ | exact Kd.S_nil _ _ _ _ _,by repeat (first | (with_reducible first | exact HB.out | apply below_alloc | apply pw_below_drewN | apply below_drew1) | exact HB.out)⟩
   ·replace c6 := Bool.eq_false_iff.mpr c6
    subst c6
    have H1 : ((some (([1] : List Int) : List Int)).bind fun y533 => (if a0 ≤ 1 then (if a0 = 0 then (if a1 > 0 then (some (([] : List Int),0)) else (some (y533,0))) else (some (y533,0))) else (tabardref1_Pow.l0 kj2 a0 a1 y533 0))) = some (r1,r2) := by rw [if_neg (show ¬ (false = true) by decide)] at H;exact H
    clear H
    have H := H1
    clear H1
    obtain ⟨y533,hy533⟩ : ∃ y_ : List Int,y_ = (([1] : List Int)) := ⟨_,rfl⟩
    replace H : (if a0 ≤ 1 then (if a0 = 0 then (if a1 > 0 then (some (([] : List Int),0)) else (some (y533,0))) else (some (y533,0))) else (tabardref1_Pow.l0 kj2 a0 a1 y533 0)) = some (r1,r2) := by first | (rw [hy533];with_reducible exact H) | (have H2_ := (Option.bind_some _ _).symm.trans H;rw [hy533];with_reducible exact H2_) | (have H2_ := (Option.bind_some _ _).symm.trans H;with_reducible exact H2_) | with_reducible exact H | (rw [hy533];exact H) | exact H
    have Ny533 := Aside0.mk hy533
    clear hy533
    by_cases c7 : a0 ≤ 1
    ·rw [if_pos c7] at H
     have c7b0 : decide (a0 ≤ 1) = true := decide_eq_true c7
     clear c7
     by_cases c8 : a0 = 0
     ·rw [if_pos c8] at H
      have c8b0 : (a0 == 0) = true := beq_iff_eq.mpr c8
      have c8b1 : (a0 != 0) = false := bne_eq_false_iff_eq.mpr c8
      clear c8
      by_cases c9 : a1 > 0
      ·rw [if_pos c9] at H
       have c9b0 : decide (0 < a1) = true := decide_eq_true c9
       clear c9
       simp only [Option.some.injEq,Prod.mk.injEq] at H
       obtain ⟨rfl,rfl⟩ := H
       go_wp2_with (first | ((with_reducible refine gate_dst (N := 18) rfl ?_);refine Kd.R_lit (Kd.int .u32) _ 63 ?hg (N := 18) ?hd (xs := ([1] : List Int)) (inner := [.int .u32 1]) (ok := fun _ => True) (okp := fun _ => True) ?hr ?hp (fun _ hk => hk) trivial (Below.refl _ _) (Nat.le_refl _) (by simp) ?_;(case hd => rfl);(case hg => rfl);(case hr => first | (go_simp;done) | (go_simp;rfl));(case hp => exact (Reps.one (show Kd.M (Kd.int .u32) _ _ _ 1 [.int .u32 1] from rfl) (Reps.none _ _)));intro v534 w10 ho11 hb hg_ hnew_;clear hg_ hnew_;(first | rw [← Ny533.out] at ho11 | (simp only [Int.reduceToNat] at ho11;rw [← Ny533.out] at ho11));have HO535 := Aside0.mk (Kd.R_lower ho11 (below_size bl_));replace HB := Aside0.mk (below_step bl_ hb);clear hb ho11))
       go_ret2
       exact ⟨_,by first | rfl | (simp [errW_none,errW_some] <;> rfl) | (simp [*,errW_none,errW_some] <;> rfl),by first | exact Kd.R_nil _ _ _ _ _ | exact Kd.N_nil _ _ _ _ _ | exact Kd.V_nil _ _ _ _ _ | exact Kd.Q_nil _ _ _ _ _ | exact Kd.S_nil _ _ _ _ _,by repeat (first | (with_reducible first | exact HB.out | apply below_alloc | apply pw_below_drewN | apply below_drew1) | exact HB.out)⟩
      ·rw [if_neg c9] at H
       have c9b0 : decide (0 < a1) = false := decide_eq_false c9
       clear c9
       simp only [Option.some.injEq,Prod.mk.injEq] at H
       obtain ⟨rfl,rfl⟩ := H
       go_wp2_with (first | ((with_reducible refine gate_dst (N := 18) rfl ?_);refine Kd.R_lit (Kd.int .u32) _ 63 ?hg (N := 18) ?hd (xs := ([1] : List Int)) (inner := [.int .u32 1]) (ok := fun _ => True) (okp := fun _ => True) ?hr ?hp (fun _ hk => hk) trivial (Below.refl _ _) (Nat.le_refl _) (by simp) ?_;(case hd => rfl);(case hg => rfl);(case hr => first | (go_simp;done) | (go_simp;rfl));(case hp => exact (Reps.one (show Kd.M (Kd.int .u32) _ _ _ 1 [.int .u32 1] from rfl) (Reps.none _ _)));intro v534 w12 ho13 hb hg_ hnew_;clear hg_ hnew_;(first | rw [← Ny533.out] at ho13 | (simp only [Int.reduceToNat] at ho13;rw [← Ny533.out] at ho13));have HO535 := Aside0.mk (Kd.R_lower ho13 (below_size bl_));replace HB := Aside0.mk (below_step bl_ hb);clear hb ho13))
       go_ret2
       exact ⟨_,by first | rfl | (simp [errW_none,errW_some] <;> rfl) | (simp [*,errW_none,errW_some] <;> rfl),by (with_reducible repeat (first | apply Kd.R_alloc | apply Kd.R_drewN | apply Kd.R_drew));exact HO535.out,by repeat (first | (with_reducible first | exact HB.out | apply below_alloc | apply pw_below_drewN | apply below_drew1) | exact HB.out)⟩
     ·rw [if_neg c8] at H
      have c8b0 : (a0 == 0) = false := beq_eq_false_iff_ne.mpr c8
      have c8b1 : (a0 != 0) = true := bne_iff_ne.mpr c8
      simp only [Option.some.injEq,Prod.mk.injEq] at H
      obtain ⟨rfl,rfl⟩ := H
      go_wp2_with (first | ((with_reducible refine gate_dst (N := 18) rfl ?_);refine Kd.R_lit (Kd.int .u32) _ 63 ?hg (N := 18) ?hd (xs := ([1] : List Int)) (inner := [.int .u32 1]) (ok := fun _ => True) (okp := fun _ => True) ?hr ?hp (fun _ hk => hk) trivial (Below.refl _ _) (Nat.le_refl _) (by simp) ?_;(case hd => rfl);(case hg => rfl);(case hr => first | (go_simp;done) | (go_simp;rfl));(case hp => exact (Reps.one (show Kd.M (Kd.int .u32) _ _ _ 1 [.int .u32 1] from rfl) (Reps.none _ _)));intro v534 w14 ho15 hb hg_ hnew_;clear hg_ hnew_;(first | rw [← Ny533.out] at ho15 | (simp only [Int.reduceToNat] at ho15;rw [← Ny533.out] at ho15));have HO535 := Aside0.mk (Kd.R_lower ho15 (below_size bl_));replace HB := Aside0.mk (below_step bl_ hb);clear hb ho15))
      go_ret2
      exact ⟨_,by first | rfl | (simp [errW_none,errW_some] <;> rfl) | (simp [*,errW_none,errW_some] <;> rfl),by (with_reducible repeat (first | apply Kd.R_alloc | apply Kd.R_drewN | apply Kd.R_drew));exact HO535.out,by repeat (first | (with_reducible first | exact HB.out | apply below_alloc | apply pw_below_drewN | apply below_drew1) | exact HB.out)⟩
    ·rw [if_neg c7] at H
     have c7b0 : decide (a0 ≤ 1) = false := decide_eq_false c7
     clear c7
     have H' := Aside0.mk H
     clear H
     go_wp2_with (first | ((with_reducible refine gate_dst (N := 18) rfl ?_);refine Kd.R_lit (Kd.int .u32) _ 63 ?hg (N := 18) ?hd (xs := ([1] : List Int)) (inner := [.int .u32 1]) (ok := fun _ => True) (okp := fun _ => True) ?hr ?hp (fun _ hk => hk) trivial (Below.refl _ _) (Nat.le_refl _) (by simp) ?_;(case hd => rfl);(case hg => rfl);(case hr => first | (go_simp;done) | (go_simp;rfl));(case hp => exact (Reps.one (show Kd.M (Kd.int .u32) _ _ _ 1 [.int .u32 1] from rfl) (Reps.none _ _)));intro v534 w16 ho17 hb hg_ hnew_;clear hg_ hnew_;(first | rw [← Ny533.out] at ho17 | (simp only [Int.reduceToNat] at ho17;rw [← Ny533.out] at ho17));have HO535 := Aside0.mk (Kd.R_lower ho17 (below_size bl_));replace HB := Aside0.mk (below_step bl_ hb);clear hb ho17))
     go_loopg [6,7] kj2 (fun kq v6 v7 w' => ∃ (x6_2 : List Int) (x7_2 : Int),v7 = .int .i64 x7_2 ∧ Aside0 (tabardref1_Pow.l0 kq a0 a1 x6_2 x7_2 = some (r1,r2)) ∧ Aside0 (kq ≤ kj2) ∧ Aside0 (Kd.R (Kd.int .u32) 63 w' w.heap.size (fun _ => True) v6 x6_2) ∧ Aside0 (Below w.heap.size w w'))
     case atStart => exact ⟨(y533),(0),(by first | rfl | (simp;done) | (simp [*];done)),H',⟨Nat.le_refl _⟩,⟨by (with_reducible repeat (first | apply Kd.R_alloc | apply Kd.R_drewN | apply Kd.R_drew));exact HO535.out⟩,⟨by repeat (first | (with_reducible first | exact HB.out | apply below_alloc | apply pw_below_drewN | apply below_drew1) | exact HB.out)⟩⟩
     case round =>
      clear H'
      try clear p2
      try clear c3
      try clear c4
      try clear c4b0
      try clear c4b1
      try clear c5
      try clear c5b0
      try clear c6
      try clear c7
      try clear c7b0
      try clear c8
      try clear c8b0
      try clear c8b1
      try clear c9
      try clear c9b0
      try clear p2
      obtain ⟨x6_2,x7_2,rfl,HA,HK2,HO_6,HB⟩ := hrel
      cases gk with
      | zero => exact absurd HA.out (by simp [tabardref1_Pow.l0])
      | succ k2 =>
       have H := HA.out
       clear HA
       simp only [tabardref1_Pow.l0] at H
       by_cases c18 : x7_2 < a1
       ·rw [if_pos c18] at H
        have c18b0 : decide (x7_2 < a1) = true := decide_eq_true c18
        clear c18
        obtain ⟨y536,hy536⟩ : ∃ y_ : List Int,y_ = (([(a0) % 4294967296] : List Int)) := ⟨_,rfl⟩
        replace H : ((tabardref1_Times.f k2 x6_2 y536).bind fun t539 => ((tabardref1_Big.f k2 t539).bind fun t542 => (if t542 = true then (some (([] : List Int),2)) else (tabardref1_Pow.l0 k2 a0 a1 t539 (wrap64 (x7_2 + 1)))))) = some (r1,r2) := by first | (rw [hy536];with_reducible exact H) | (have H2_ := (Option.bind_some _ _).symm.trans H;rw [hy536];with_reducible exact H2_) | (have H2_ := (Option.bind_some _ _).symm.trans H;with_reducible exact H2_) | with_reducible exact H | (rw [hy536];exact H) | exact H
        have Ny536 := Aside0.mk hy536
        clear hy536
        replace H := Option.bind_eq_some_iff.mp H
        obtain ⟨t539,A190,H⟩ := H
        replace H : ((tabardref1_Big.f k2 t539).bind fun t542 => (if t542 = true then (some (([] : List Int),2)) else (tabardref1_Pow.l0 k2 a0 a1 t539 (wrap64 (x7_2 + 1))))) = some (r1,r2) := H
        have A19 := Aside0.mk A190
        clear A190
        replace H := Option.bind_eq_some_iff.mp H
        obtain ⟨t542,A200,H⟩ := H
        replace H : (if t542 = true then (some (([] : List Int),2)) else (tabardref1_Pow.l0 k2 a0 a1 t539 (wrap64 (x7_2 + 1)))) = some (r1,r2) := H
        have A20 := Aside0.mk A200
        clear A200
        by_cases c21 : t542 = true
        ·subst c21
         have H1 : (some (([] : List Int),2)) = some (r1,r2) := by rw [if_pos rfl] at H;exact H
         clear H
         have H := H1
         clear H1
         simp only [Option.some.injEq,Prod.mk.injEq] at H
         obtain ⟨rfl,rfl⟩ := H
         go_wp2_with (first | ((with_reducible refine gate_dst (N := 36) rfl ?_);refine Kd.R_lit (Kd.int .u32) _ 63 ?hg (N := 36) ?hd (xs := ([(a0) % 4294967296] : List Int)) (inner := [.int .u32 ((a0) % 4294967296)]) (ok := fun _ => True) (okp := fun _ => True) ?hr ?hp (fun _ hk => hk) trivial (Below.refl _ _) (Nat.le_refl _) (by simp) ?_;(case hd => rfl);(case hg => rfl);(case hr => first | (go_simp;done) | (go_simp;rfl));(case hp => exact (Reps.one (show Kd.M (Kd.int .u32) _ _ _ ((a0) % 4294967296) [.int .u32 ((a0) % 4294967296)] from rfl) (Reps.none _ _)));intro v537 w22 ho23 hb hg_ hnew_;clear hg_ hnew_;(first | rw [← Ny536.out] at ho23 | (simp only [Int.reduceToNat] at ho23;rw [← Ny536.out] at ho23));have HO538 := Aside0.mk (Kd.R_lower (Kd.R_new' ho23 (Kd.R_lt (ra_ HO_6.out))) (below_size bl_));replace HO_6 := Aside0.mk (Kd.R_elder' (ra_ HO_6.out) (Kd.R_base ho23) hb);replace HB := Aside0.mk (below_step bl_ hb);clear hb ho23;obtain ⟨Ao24,co24,eo24⟩ := Kd.R_slice HO_6.out;subst eo24;obtain ⟨Ao25,co25,eo25⟩ := Kd.R_slice HO538.out;subst eo25) | ((with_reducible refine gate_callee (f := 48) rfl ?_);refine goesL_ (some 37) rfl rfl Tryz.func48 (by kernel_rfl) rfl #[.slice Ao24 x6_2.length co24,.slice Ao25 y536.length co25] rfl am_ ?_;(with_reducible refine (tabardref1_Times.calls k2 _ _ x6_2 _ _ y536 t539 _ ?side1 ?side2 ?side3 ?side4 A19.out).mono ?_);(case side1 => exact ca_ (Kd.R_reads' HO_6.out).2.2);(case side2 => exact (Kd.R_reads' HO_6.out).2.1);(case side3 => exact ca_ (Kd.R_reads' HO538.out).2.2);(case side4 => exact (Kd.R_reads' HO538.out).2.1);rintro e w26 ⟨v540,rfl,ho0,hb⟩;refine ⟨_,rfl,?_⟩;have HO541 := Aside0.mk (Kd.R_lower (Kd.R_new' (Kd.R_new' ho0 (Kd.R_lt (ra_ HO_6.out))) (Kd.R_lt (ra_ HO538.out))) (below_size bl_));replace HO_6 := Aside0.mk (Kd.R_elder' (ra_ HO_6.out) (Kd.R_base ho0) hb);replace HO538 := Aside0.mk (Kd.R_elder' (ra_ HO538.out) (Kd.R_base ho0) hb);replace HB := Aside0.mk (below_step bl_ hb);(try clear hb);(try clear hb2);(try clear hk);(try clear hi);(try clear ho0);obtain ⟨Ao27,co27,eo27⟩ := Kd.R_slice HO541.out;subst eo27) | ((with_reducible refine gate_callee (f := 43) rfl ?_);refine goesL_ (some 39) rfl rfl Tryz.func43 (by kernel_rfl) rfl #[.slice Ao27 t539.length co27] rfl am_ ?_;(with_reducible refine (tabardref1_Big.calls k2 _ _ t539 true _ ?side1 ?side2 A20.out).mono ?_);(case side1 => exact ca_ (Kd.R_reads' HO541.out).2.2);(case side2 => exact (Kd.R_reads' HO541.out).2.1);rintro e w28 ⟨rfl,hb⟩;refine ⟨_,rfl,?_⟩;replace HO_6 := Aside0.mk (Kd.R_below (ra_ HO_6.out) hb);replace HO538 := Aside0.mk (Kd.R_below (ra_ HO538.out) hb);replace HO541 := Aside0.mk (Kd.R_below (ra_ HO541.out) hb);replace HB := Aside0.mk (below_step bl_ hb);(try clear hb);(try clear hb2);(try clear hk);(try clear hi)))
         go_ret2
         exact ⟨_,by first | rfl | (simp [errW_none,errW_some] <;> rfl) | (simp [*,errW_none,errW_some] <;> rfl),by first | exact Kd.R_nil _ _ _ _ _ | exact Kd.N_nil _ _ _ _ _ | exact Kd.V_nil _ _ _ _ _ | exact Kd.Q_nil _ _ _ _ _ | exact Kd.S_nil _ _ _ _ _,by repeat (first | (with_reducible first | exact HB.out | apply below_alloc | apply pw_below_drewN | apply below_drew1) | exact HB.out)⟩
        ·replace c21 := Bool.eq_false_iff.mpr c21
         subst c21
         have H1 : (tabardref1_Pow.l0 k2 a0 a1 t539 (wrap64 (x7_2 + 1))) = some (r1,r2) := by rw [if_neg (show ¬ (false = true) by decide)] at H;exact H
         clear H
         have H := H1
         clear H1
         have H' := Aside0.mk H
         clear H
         go_wp2_with (first | ((with_reducible refine gate_dst (N := 36) rfl ?_);refine Kd.R_lit (Kd.int .u32) _ 63 ?hg (N := 36) ?hd (xs := ([(a0) % 4294967296] : List Int)) (inner := [.int .u32 ((a0) % 4294967296)]) (ok := fun _ => True) (okp := fun _ => True) ?hr ?hp (fun _ hk => hk) trivial (Below.refl _ _) (Nat.le_refl _) (by simp) ?_;(case hd => rfl);(case hg => rfl);(case hr => first | (go_simp;done) | (go_simp;rfl));(case hp => exact (Reps.one (show Kd.M (Kd.int .u32) _ _ _ ((a0) % 4294967296) [.int .u32 ((a0) % 4294967296)] from rfl) (Reps.none _ _)));intro v537 w29 ho30 hb hg_ hnew_;clear hg_ hnew_;(first | rw [← Ny536.out] at ho30 | (simp only [Int.reduceToNat] at ho30;rw [← Ny536.out] at ho30));have HO538 := Aside0.mk (Kd.R_lower (Kd.R_new' ho30 (Kd.R_lt (ra_ HO_6.out))) (below_size bl_));replace HO_6 := Aside0.mk (Kd.R_elder' (ra_ HO_6.out) (Kd.R_base ho30) hb);replace HB := Aside0.mk (below_step bl_ hb);clear hb ho30;obtain ⟨Ao31,co31,eo31⟩ := Kd.R_slice HO_6.out;subst eo31;obtain ⟨Ao32,co32,eo32⟩ := Kd.R_slice HO538.out;subst eo32) | ((with_reducible refine gate_callee (f := 48) rfl ?_);refine goesL_ (some 37) rfl rfl Tryz.func48 (by kernel_rfl) rfl #[.slice Ao31 x6_2.length co31,.slice Ao32 y536.length co32] rfl am_ ?_;(with_reducible refine (tabardref1_Times.calls k2 _ _ x6_2 _ _ y536 t539 _ ?side1 ?side2 ?side3 ?side4 A19.out).mono ?_);(case side1 => exact ca_ (Kd.R_reads' HO_6.out).2.2);(case side2 => exact (Kd.R_reads' HO_6.out).2.1);(case side3 => exact ca_ (Kd.R_reads' HO538.out).2.2);(case side4 => exact (Kd.R_reads' HO538.out).2.1);rintro e w33 ⟨v540,rfl,ho0,hb⟩;refine ⟨_,rfl,?_⟩;have HO541 := Aside0.mk (Kd.R_lower (Kd.R_new' (Kd.R_new' ho0 (Kd.R_lt (ra_ HO_6.out))) (Kd.R_lt (ra_ HO538.out))) (below_size bl_));replace HO_6 := Aside0.mk (Kd.R_elder' (ra_ HO_6.out) (Kd.R_base ho0) hb);replace HO538 := Aside0.mk (Kd.R_elder' (ra_ HO538.out) (Kd.R_base ho0) hb);replace HB := Aside0.mk (below_step bl_ hb);(try clear hb);(try clear hb2);(try clear hk);(try clear hi);(try clear ho0);obtain ⟨Ao34,co34,eo34⟩ := Kd.R_slice HO541.out;subst eo34) | ((with_reducible refine gate_callee (f := 43) rfl ?_);refine goesL_ (some 39) rfl rfl Tryz.func43 (by kernel_rfl) rfl #[.slice Ao34 t539.length co34] rfl am_ ?_;(with_reducible refine (tabardref1_Big.calls k2 _ _ t539 false _ ?side1 ?side2 A20.out).mono ?_);(case side1 => exact ca_ (Kd.R_reads' HO541.out).2.2);(case side2 => exact (Kd.R_reads' HO541.out).2.1);rintro e w35 ⟨rfl,hb⟩;refine ⟨_,rfl,?_⟩;replace HO_6 := Aside0.mk (Kd.R_below (ra_ HO_6.out) hb);replace HO538 := Aside0.mk (Kd.R_below (ra_ HO538.out) hb);replace HO541 := Aside0.mk (Kd.R_below (ra_ HO541.out) hb);replace HB := Aside0.mk (below_step bl_ hb);(try clear hb);(try clear hb2);(try clear hk);(try clear hi)))
         go_roundg k2
         case measure => have := HJ2.out;have := HK2.out;omega
         case rel => exact ⟨(t539),(wrap64 (x7_2 + 1)),(by first | rfl | (simp;done) | (simp [*];done)),H',⟨by have := HJ2.out;have := HK2.out;omega⟩,⟨by (with_reducible repeat (first | apply Kd.R_alloc | apply Kd.R_drewN | apply Kd.R_drew));exact Kd.R_mono HO541.out (fun _ hk => trivial)⟩,⟨by repeat (first | (with_reducible first | exact HB.out | apply below_alloc | apply pw_below_drewN | apply below_drew1) | exact HB.out)⟩⟩
       ·rw [if_neg c18] at H
        have c18b0 : decide (x7_2 < a1) = false := decide_eq_false c18
        clear c18
        simp only [Option.some.injEq,Prod.mk.injEq] at H
        obtain ⟨rfl,rfl⟩ := H
        go_wp2
        go_ret2
        exact ⟨_,by first | rfl | (simp [errW_none,errW_some] <;> rfl) | (simp [*,errW_none,errW_some] <;> rfl),by (with_reducible repeat (first | apply Kd.R_alloc | apply Kd.R_drewN | apply Kd.R_drew));exact HO_6.out,by repeat (first | (with_reducible first | exact HB.out | apply below_alloc | apply pw_below_drewN | apply below_drew1) | exact HB.out)⟩

end Go.Proofs.YtfcenlhaepckoaaGreatDoor.P
