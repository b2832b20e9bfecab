-- Printed by a program of this session (wip/tools) over the kit's print: not trusted, Lean checks it.
import Derived.Test.YtfcenlhaepckoaaGreatDoorP0n3
import Derived.Test.YtfcenlhaepckoaaGreatDoorProg
import Derived.Test.YtfcenlhaepckoaaGreatDoorElibn3
import Derived.Test.YtfcenlhaepckoaaGreatDoorSqn3
import Derived.Test.YtfcenlhaepckoaaGreatDoorP7n3
import Derived.Test.YtfcenlhaepckoaaGreatDoorP9n3
import Derived.Test.YtfcenlhaepckoaaGreatDoorLibsn3
namespace Go.Proofs.YtfcenlhaepckoaaGreatDoor.P
set_option linter.all false
open Go.RowKit Go.Proofs.YtfcenlhaepckoaaGreatDoorW.PrintWords Go.Proofs.YtfcenlhaepckoaaGreatDoorW.PrintLast Go.Proofs.YtfcenlhaepckoaaGreatDoorW.PrintMore
attribute [local go_sem] max2_int min2_int max_two min_two max_three min_three max_four min_four   -- for this text's walks alone
attribute [local go_sem] cell_after
set_option linter.unusedVariables false
set_option linter.unusedSimpArgs false

/-! ### tabardref1_Shl: function 28 -/
mutual
def tabardref1_Shl.j0 : Nat → Int → List Int → Bool → Option (List Int × Int)
 | 0,_,_,_ => none
 | k + 1,x1,x6,x26 => if x26 = true then (some (([] : List Int),2)) else (if 0 ≤ (wrap64 (Int.tdiv x1 32)) then (if (wrap64 (Int.tdiv x1 32) : Int).toNat ≤ 70368744177664 then ((some (List.replicate (wrap64 (Int.tdiv x1 32) : Int).toNat 0 : List Int)).bind fun y506 => (if y506.length + x6.length < 35184372088832 then (tabardref1_Shl.l0 k x1 (y506 ++ x6) 0) else (none))) else (none)) else (none))
def tabardref1_Shl.l0 : Nat → Int → List Int → Int → Option (List Int × Int)
 | 0,_,_,_ => none
 | k + 1,x1,x7,x8 => if x8 < (Int.tmod x1 32) then ((tabardref1_Twice.f k x7 false).bind fun t512 => (tabardref1_Shl.l0 k x1 t512 (wrap64 (x8 + 1)))) else ((tabardref1_Trim.f k x7).bind fun t515 => (some (t515,0)))
end
def tabardref1_Shl.f (k : Nat) (l0 : List Int) (a1 : Int) : Option (List Int × Int) := if a1 < 0 then (some (([] : List Int),1)) else ((tabardref1_Big.f k l0).bind fun t501 => (if t501 = true then (some (([] : List Int),2)) else ((tabardref1_Trim.f k l0).bind fun t502 => (if (t502.length : Int) = 0 then (some (([] : List Int),0)) else (if a1 > 8192 then (tabardref1_Shl.j0 k a1 t502 true) else ((tabardref1_Len.f k t502).bind fun t505 => (tabardref1_Shl.j0 k a1 t502 (decide ((wrap64 (t505 + a1)) > 8192)))))))))
set_option maxHeartbeats 8000000 in
set_option maxRecDepth 100000 in
theorem tabardref1_Shl.calls (k : Nat) (A0 : Option Addr) (c0 : Nat) (l0 : List Int) (a1 : Int) (r1 : List Int) (r2 : Int) (w : World) (hr0 : Kd.C (Kd.int .u32) w A0 l0.length l0) (hc0 : l0.length ≤ c0) (h : tabardref1_Shl.f k l0 a1 = some (r1,r2)) :
  Calls Tryz.prog 28 #[.slice A0 l0.length c0,.int .i64 a1] w fun e w' => ∃ v0_ : Value,e = .returned (.tuple #[v0_,.int .i64 r2]) ∧ Kd.R (Kd.int .u32) 63 w' w.heap.size (fun _ => True) v0_ r1 ∧ Below w.heap.size w w' := by
 have HR0 := Aside0.mk hr0
 have HC0 := Aside0.mk hc0
 clear hr0 hc0
 have HB := Aside0.mk (Below.refl w.heap.size w)
 have H : (if a1 < 0 then (some (([] : List Int),1)) else ((tabardref1_Big.f k l0).bind fun t501 => (if t501 = true then (some (([] : List Int),2)) else ((tabardref1_Trim.f k l0).bind fun t502 => (if (t502.length : Int) = 0 then (some (([] : List Int),0)) else (if a1 > 8192 then (tabardref1_Shl.j0 k a1 t502 true) else ((tabardref1_Len.f k t502).bind fun t505 => (tabardref1_Shl.j0 k a1 t502 (decide ((wrap64 (t505 + a1)) > 8192)))))))))) = some (r1,r2) := h
 clear h
 by_cases c3 : a1 < 0
 ·rw [if_pos c3] at H
  have c3b0 : decide (a1 < 0) = true := decide_eq_true c3
  clear c3
  simp only [Option.some.injEq,Prod.mk.injEq] at H
  obtain ⟨rfl,rfl⟩ := H
  go_enter Tryz.func28,Tryz.ntmps28
  go_wp2
  go_ret2
  exact ⟨_,by first | rfl | (simp [errW_none,errW_some] <;> rfl) | (simp [*,errW_none,errW_some] <;> rfl),by first | exact Kd.R_nil _ _ _ _ _ | exact Kd.N_nil _ _ _ _ _ | exact Kd.V_nil _ _ _ _ _ | exact Kd.Q_nil _ _ _ _ _ | exact Kd.S_nil _ _ _ _ _,by repeat (first | (with_reducible first | exact HB.out | apply below_alloc | apply pw_below_drewN | apply below_drew1) | exact HB.out)⟩
 ·rw [if_neg c3] at H
  have c3b0 : decide (a1 < 0) = false := decide_eq_false c3
  clear c3
  replace H := Option.bind_eq_some_iff.mp H
  obtain ⟨t501,A40,H⟩ := H
  replace H : (if t501 = true then (some (([] : List Int),2)) else ((tabardref1_Trim.f k l0).bind fun t502 => (if (t502.length : Int) = 0 then (some (([] : List Int),0)) else (if a1 > 8192 then (tabardref1_Shl.j0 k a1 t502 true) else ((tabardref1_Len.f k t502).bind fun t505 => (tabardref1_Shl.j0 k a1 t502 (decide ((wrap64 (t505 + a1)) > 8192)))))))) = some (r1,r2) := H
  have A4 := Aside0.mk A40
  clear A40
  by_cases c5 : t501 = true
  ·subst c5
   have H1 : (some (([] : List Int),2)) = some (r1,r2) := by rw [if_pos rfl] at H;exact H
   clear H
   have H := H1
   clear H1
   simp only [Option.some.injEq,Prod.mk.injEq] at H
   obtain ⟨rfl,rfl⟩ := H
   go_enter Tryz.func28,Tryz.ntmps28
   go_wp2_with (first | ((with_reducible refine gate_callee (f := 43) rfl ?_);refine goesL_ (some 12) rfl rfl Tryz.func43 (by kernel_rfl) rfl #[.slice A0 l0.length c0] rfl am_ ?_;(with_reducible refine (tabardref1_Big.calls k _ _ l0 true _ ?side1 ?side2 A4.out).mono ?_);(case side1 => exact ca_ HR0.out);(case side2 => exact HC0.out);rintro e w6 ⟨rfl,hb⟩;refine ⟨_,rfl,?_⟩;replace HB := Aside0.mk (below_step bl_ hb);(try clear hb);(try clear hb2);(try clear hk);(try clear hi)))
   go_ret2
   exact ⟨_,by first | rfl | (simp [errW_none,errW_some] <;> rfl) | (simp [*,errW_none,errW_some] <;> rfl),by first | exact Kd.R_nil _ _ _ _ _ | exact Kd.N_nil _ _ _ _ _ | exact Kd.V_nil _ _ _ _ _ | exact Kd.Q_nil _ _ _ _ _ | exact Kd.S_nil _ _ _ _ _,by repeat (first | (with_reducible first | exact HB.out | apply below_alloc | apply pw_below_drewN | apply below_drew1) | exact HB.out)⟩
  ·replace c5 := Bool.eq_false_iff.mpr c5
   subst c5
   have H1 : ((tabardref1_Trim.f k l0).bind fun t502 => (if (t502.length : Int) = 0 then (some (([] : List Int),0)) else (if a1 > 8192 then (tabardref1_Shl.j0 k a1 t502 true) else ((tabardref1_Len.f k t502).bind fun t505 => (tabardref1_Shl.j0 k a1 t502 (decide ((wrap64 (t505 + a1)) > 8192))))))) = some (r1,r2) := by rw [if_neg (show ¬ (false = true) by decide)] at H;exact H
   clear H
   have H := H1
   clear H1
   replace H := Option.bind_eq_some_iff.mp H
   obtain ⟨t502,A70,H⟩ := H
   replace H : (if (t502.length : Int) = 0 then (some (([] : List Int),0)) else (if a1 > 8192 then (tabardref1_Shl.j0 k a1 t502 true) else ((tabardref1_Len.f k t502).bind fun t505 => (tabardref1_Shl.j0 k a1 t502 (decide ((wrap64 (t505 + a1)) > 8192)))))) = some (r1,r2) := H
   have A7 := Aside0.mk A70
   clear A70
   by_cases c8 : (t502.length : Int) = 0
   ·rw [if_pos c8] at H
    have c8b0 : ((t502.length : Int) == 0) = true := beq_iff_eq.mpr c8
    have c8b1 : ((t502.length : Int) != 0) = false := bne_eq_false_iff_eq.mpr c8
    clear c8
    simp only [Option.some.injEq,Prod.mk.injEq] at H
    obtain ⟨rfl,rfl⟩ := H
    go_enter Tryz.func28,Tryz.ntmps28
    go_wp2_with (first | ((with_reducible refine gate_callee (f := 43) rfl ?_);refine goesL_ (some 12) rfl rfl Tryz.func43 (by kernel_rfl) rfl #[.slice A0 l0.length c0] rfl am_ ?_;(with_reducible refine (tabardref1_Big.calls k _ _ l0 false _ ?side1 ?side2 A4.out).mono ?_);(case side1 => exact ca_ HR0.out);(case side2 => exact HC0.out);rintro e w9 ⟨rfl,hb⟩;refine ⟨_,rfl,?_⟩;replace HB := Aside0.mk (below_step bl_ hb);(try clear hb);(try clear hb2);(try clear hk);(try clear hi)) | ((with_reducible refine gate_callee (f := 10) rfl ?_);refine goesL_ (some 14) rfl rfl Tryz.func10 (by kernel_rfl) rfl #[.slice A0 l0.length c0] rfl am_ ?_;(with_reducible refine (tabardref1_Trim.calls k _ _ l0 t502 _ ?side1 ?side2 A7.out).mono ?_);(case side1 => exact ca_ (Kd.C_below HR0.out HB.out));(case side2 => exact HC0.out);rintro e w10 ⟨v503,rfl,ho0,hb⟩;refine ⟨_,rfl,?_⟩;have HO504 := Aside0.mk (Kd.R_lower ho0 (below_size bl_));replace HB := Aside0.mk (below_step bl_ hb);(try clear hb);(try clear hb2);(try clear hk);(try clear hi);(try clear ho0);obtain ⟨Ao11,co11,eo11⟩ := Kd.R_slice HO504.out;subst eo11))
    go_ret2
    exact ⟨_,by first | rfl | (simp [errW_none,errW_some] <;> rfl) | (simp [*,errW_none,errW_some] <;> rfl),by first | exact Kd.R_nil _ _ _ _ _ | exact Kd.N_nil _ _ _ _ _ | exact Kd.V_nil _ _ _ _ _ | exact Kd.Q_nil _ _ _ _ _ | exact Kd.S_nil _ _ _ _ _,by repeat (first | (with_reducible first | exact HB.out | apply below_alloc | apply pw_below_drewN | apply below_drew1) | exact HB.out)⟩
   ·rw [if_neg c8] at H
    have c8b0 : ((t502.length : Int) == 0) = false := beq_eq_false_iff_ne.mpr c8
    have c8b1 : ((t502.length : Int) != 0) = true := bne_iff_ne.mpr c8
    have c8b2 : ¬ (t502 = []) := fun h_ => c8 (by rw [h_];rfl)
    have HC12 := Aside0.mk H
    clear H
    go_enter Tryz.func28,Tryz.ntmps28
    go_upto_region 8 with (first | ((with_reducible refine gate_callee (f := 43) rfl ?_);refine goesL_ (some 12) rfl rfl Tryz.func43 (by kernel_rfl) rfl #[.slice A0 l0.length c0] rfl am_ ?_;(with_reducible refine (tabardref1_Big.calls k _ _ l0 false _ ?side1 ?side2 A4.out).mono ?_);(case side1 => exact ca_ HR0.out);(case side2 => exact HC0.out);rintro e w13 ⟨rfl,hb⟩;refine ⟨_,rfl,?_⟩;replace HB := Aside0.mk (below_step bl_ hb);(try clear hb);(try clear hb2);(try clear hk);(try clear hi)) | ((with_reducible refine gate_callee (f := 10) rfl ?_);refine goesL_ (some 14) rfl rfl Tryz.func10 (by kernel_rfl) rfl #[.slice A0 l0.length c0] rfl am_ ?_;(with_reducible refine (tabardref1_Trim.calls k _ _ l0 t502 _ ?side1 ?side2 A7.out).mono ?_);(case side1 => exact ca_ (Kd.C_below HR0.out HB.out));(case side2 => exact HC0.out);rintro e w14 ⟨v503,rfl,ho0,hb⟩;refine ⟨_,rfl,?_⟩;have HO504 := Aside0.mk (Kd.R_lower ho0 (below_size bl_));replace HB := Aside0.mk (below_step bl_ hb);(try clear hb);(try clear hb2);(try clear hk);(try clear hi);(try clear ho0);obtain ⟨Ao15,co15,eo15⟩ := Kd.R_slice HO504.out;subst eo15))
    (try simp only [Act.put,List.setIfInBounds_toArray,List.set_cons_zero,List.set_cons_succ])
    go_cut [26] (fun v26 wc => ∃ (kq : Nat) (x26_11 : Bool),v26 = .bool x26_11 ∧ Aside0 (tabardref1_Shl.j0 kq a1 t502 x26_11 = some (r1,r2)) ∧ Aside0 (kq ≤ k) ∧ Aside0 (Kd.R (Kd.int .u32) 63 wc w.heap.size (fun _ => True) (.slice Ao15 t502.length co15) t502) ∧ Aside0 (Below w.heap.size w wc))
    case first =>
     have H := HC12.out
     clear HC12
     by_cases c16 : a1 > 8192
     ·rw [if_pos c16] at H
      have c16b0 : decide (8192 < a1) = true := decide_eq_true c16
      clear c16
      (first | rw [c16b0] | (simp only [i64_w,i32_w];rw [c16b0]) | rw [c16b1] | (simp only [i64_w,i32_w];rw [c16b1]) | skip)
      have H' := Aside0.mk H
      clear H
      go_wp2
      go_meet
      case rel => exact ⟨_,(true),(by first | rfl | (simp;done) | (simp [*];done)),H',⟨by first | omega | exact Nat.le_refl _⟩,⟨by (with_reducible repeat (first | apply Kd.R_alloc | apply Kd.R_drewN | apply Kd.R_drew));exact HO504.out⟩,⟨by repeat (first | (with_reducible first | exact HB.out | apply below_alloc | apply pw_below_drewN | apply below_drew1) | exact HB.out)⟩⟩
     ·rw [if_neg c16] at H
      have c16b0 : decide (8192 < a1) = false := decide_eq_false c16
      clear c16
      (first | rw [c16b0] | (simp only [i64_w,i32_w];rw [c16b0]) | rw [c16b1] | (simp only [i64_w,i32_w];rw [c16b1]) | skip)
      replace H := Option.bind_eq_some_iff.mp H
      obtain ⟨t505,A170,H⟩ := H
      replace H : (tabardref1_Shl.j0 k a1 t502 (decide ((wrap64 (t505 + a1)) > 8192))) = some (r1,r2) := H
      have A17 := Aside0.mk A170
      clear A170
      have H' := Aside0.mk H
      clear H
      go_wp2_with (first | (go_at_call 16;(with_reducible refine (tabardref1_Len.calls k _ _ t502 t505 _ ?side1 ?side2 A17.out).mono ?_);(case side1 => exact ca_ (Kd.R_reads' HO504.out).2.2);(case side2 => exact (Kd.R_reads' HO504.out).2.1);rintro e w18 ⟨rfl,hb⟩;replace HO504 := Aside0.mk (Kd.R_below (ra_ HO504.out) hb);replace HB := Aside0.mk (below_step bl_ hb);(try clear hb);(try clear hb2);(try clear hk);(try clear hi)))
      go_meet
      case rel => exact ⟨_,(decide ((wrap64 (t505 + a1)) > 8192)),(by first | rfl | (simp;done) | (simp [*];done)),H',⟨by first | omega | exact Nat.le_refl _⟩,⟨by (with_reducible repeat (first | apply Kd.R_alloc | apply Kd.R_drewN | apply Kd.R_drew));exact HO504.out⟩,⟨by repeat (first | (with_reducible first | exact HB.out | apply below_alloc | apply pw_below_drewN | apply below_drew1) | exact HB.out)⟩⟩
    case rest =>
     clear HC12
     try clear c1
     try clear c2
     try clear p2
     try clear c3
     try clear c3b0
     try clear c4
     try clear c5
     try clear p6
     try clear c8
     try clear c8b0
     try clear c8b1
     try clear c8b2
     try clear c10
     try clear c16
     try clear c16b0
     try clear c16b1
     obtain ⟨kq,x26_11,rfl,HA,HJ11,HO_6,HB⟩ := hcut
     cases kq with
     | zero => exact absurd HA.out (by simp [tabardref1_Shl.j0])
     | succ kj11 =>
      have H := HA.out
      clear HA
      simp only [tabardref1_Shl.j0] at H
      by_cases c19 : x26_11 = true
      ·subst c19
       have H1 : (some (([] : List Int),2)) = some (r1,r2) := by rw [if_pos rfl] at H;exact H
       clear H
       have H := H1
       clear H1
       simp only [Option.some.injEq,Prod.mk.injEq] at H
       obtain ⟨rfl,rfl⟩ := H
       go_wp2
       go_ret2
       exact ⟨_,by first | rfl | (simp [errW_none,errW_some] <;> rfl) | (simp [*,errW_none,errW_some] <;> rfl),by first | exact Kd.R_nil _ _ _ _ _ | exact Kd.N_nil _ _ _ _ _ | exact Kd.V_nil _ _ _ _ _ | exact Kd.Q_nil _ _ _ _ _ | exact Kd.S_nil _ _ _ _ _,by repeat (first | (with_reducible first | exact HB.out | apply below_alloc | apply pw_below_drewN | apply below_drew1) | exact HB.out)⟩
      ·replace c19 := Bool.eq_false_iff.mpr c19
       subst c19
       have H1 : (if 0 ≤ (wrap64 (Int.tdiv a1 32)) then (if (wrap64 (Int.tdiv a1 32) : Int).toNat ≤ 70368744177664 then ((some (List.replicate (wrap64 (Int.tdiv a1 32) : Int).toNat 0 : List Int)).bind fun y506 => (if y506.length + t502.length < 35184372088832 then (tabardref1_Shl.l0 kj11 a1 (y506 ++ t502) 0) else (none))) else (none)) else (none)) = some (r1,r2) := by rw [if_neg (show ¬ (false = true) by decide)] at H;exact H
       clear H
       have H := H1
       clear H1
       obtain ⟨ji20,hji20⟩ : ∃ j_ : Int,(wrap64 (Int.tdiv a1 32)) = j_ := ⟨_,rfl⟩
       replace H : (if 0 ≤ (ji20) then (if (ji20 : Int).toNat ≤ 70368744177664 then ((some (List.replicate (ji20 : Int).toNat 0 : List Int)).bind fun y506 => (if y506.length + t502.length < 35184372088832 then (tabardref1_Shl.l0 kj11 a1 (y506 ++ t502) 0) else (none))) else (none)) else (none)) = some (r1,r2) := by first | (rw [hji20] at H;exact H) | (simp only [hji20] at H ⊢;exact H)
       have hji20w : (IntKind.i64.wrap (Int.tdiv a1 32)) = ji20 := (i64_w _).trans hji20
       by_cases c21 : 0 ≤ (ji20)
       ·rw [if_pos c21] at H
        have c21b0 := eq_true c21
        have c21b1 : decide (0 ≤ (ji20)) = true := decide_eq_true c21
        clear c21
        by_cases c22 : (ji20 : Int).toNat ≤ 70368744177664
        ·rw [if_pos c22] at H
         have c22b0 := eq_true c22
         have c22b1 : decide ((ji20 : Int).toNat ≤ 70368744177664) = true := decide_eq_true c22
         clear c22
         obtain ⟨y506,hy506⟩ : ∃ y_ : List Int,y_ = (List.replicate (ji20 : Int).toNat 0) := ⟨_,rfl⟩
         replace H : (if y506.length + t502.length < 35184372088832 then (tabardref1_Shl.l0 kj11 a1 (y506 ++ t502) 0) else (none)) = some (r1,r2) := by first | (rw [hy506];with_reducible exact H) | (have H2_ := (Option.bind_some _ _).symm.trans H;rw [hy506];with_reducible exact H2_) | (have H2_ := (Option.bind_some _ _).symm.trans H;with_reducible exact H2_) | with_reducible exact H | (rw [hy506];exact H) | exact H
         have Ny506 := Aside0.mk hy506
         clear hy506
         by_cases c23 : y506.length + t502.length < 35184372088832
         ·rw [if_pos c23] at H
          have LMc23 := Aside0.mk c23
          clear c23
          obtain ⟨y509,hy509⟩ : ∃ y_ : List Int,y_ = (y506 ++ t502) := ⟨_,rfl⟩
          replace H : (tabardref1_Shl.l0 kj11 a1 y509 0) = some (r1,r2) := by first | (rw [hy509];with_reducible exact H) | (have H2_ := (Option.bind_some _ _).symm.trans H;rw [hy509];with_reducible exact H2_) | (have H2_ := (Option.bind_some _ _).symm.trans H;with_reducible exact H2_) | with_reducible exact H | (rw [hy509];exact H) | exact H
          have Ny509 := Aside0.mk hy509
          clear hy509
          have H' := Aside0.mk H
          clear H
          go_wp2_with (first | ((with_reducible refine gate_dst (N := 29) rfl ?_);refine Kd.R_make (Kd.int .u32) _ 63 rfl (N := 29) rfl 22 _ _ rfl ji20 rfl rfl Tryz.underlying22 (.int .u32 0) 4 info63 rfl (by decide) (by omega) 0 (ok := fun _ => True) (okp := fun _ => True) rfl (fun _ hk => hk) trivial od_ (Nat.le_trans (Nat.mul_le_mul_right _ (od_ : ji20.toNat ≤ 70368744177664)) (by omega)) (Below.refl _ _) (Nat.le_refl _) ?_;intro v507 w24 ho25 hb hg_ hnew_;clear hg_ hnew_;(first | rw [← Ny506.out] at ho25 | (simp only [Int.reduceToNat] at ho25;rw [← Ny506.out] at ho25));have HO508 := Aside0.mk (Kd.R_lower (Kd.R_new' ho25 (Kd.R_lt (ra_ HO_6.out))) (below_size bl_));replace HO_6 := Aside0.mk (Kd.R_elder' (ra_ HO_6.out) (Kd.R_base ho25) hb);replace HB := Aside0.mk (below_step bl_ hb);clear hb ho25) | ((with_reducible refine gate_builtin (b := .append) (xs := #[.tmp 30,.tmp 31]) rfl ?_);at_builtin;refine Kd.R_append_rows (Kd.int .u32) (w0 := w) w.heap.size rfl (.tmp 30) (.tmp 31) 22 63 (.int .u32 0) 4 rfl Tryz.underlying22 info63 rfl (by decide) (by omega) v507 y506 t502 _ _ _ (fun k_ => some k_ ≠ (.slice Ao15 t502.length co15 : Value).ownBlock) (fun _ => False) rfl rfl ?aO ?aR (fun _ _ h => h) (fun _ h => h.elim) ?aF ?aB ?aS ?aL ?_;(case aR => exact ca_ (Kd.R_reads' HO_6.out).2.2);(case aB => exact bl_);(case aF => exact (fun k_ hk => Kd.fresh' (Kd.R_lt (ra_ HO_6.out)) k_ hk));(case aO => exact (by (with_reducible repeat (first | apply Kd.R_alloc | apply Kd.R_drewN | apply Kd.R_drew));exact Kd.R_mono HO508.out (fun _ hk => hk.2)));(case aS => exact (below_size bl_));(case aL => have := LMc23.out;omega);intro v510 w26 ho hb hg hat;rw [← Ny509.out] at ho;replace HO_6 := Aside0.mk (Kd.R_after (ok := (fun _ => True)) (ra_ HO_6.out) hg hat);replace HB := Aside0.mk (hb);have HO511 := Aside0.mk (ho);clear HO508;clear ho hb hg hat))
          go_loopg [7,8] kj11 (fun kq v7 v8 w' => ∃ (x7_2 : List Int) (x8_2 : Int),v8 = .int .i64 x8_2 ∧ Aside0 (tabardref1_Shl.l0 kq a1 x7_2 x8_2 = some (r1,r2)) ∧ Aside0 (kq ≤ kj11) ∧ Aside0 (Kd.R (Kd.int .u32) 63 w' w.heap.size (fun _ => True) v7 x7_2) ∧ Aside0 (Below w.heap.size w w'))
          case atStart => exact ⟨(y509),(0),(by first | rfl | (simp;done) | (simp [*];done)),H',⟨Nat.le_refl _⟩,⟨by (with_reducible repeat (first | apply Kd.R_alloc | apply Kd.R_drewN | apply Kd.R_drew));exact Kd.R_mono HO511.out (fun _ hk => trivial)⟩,⟨by repeat (first | (with_reducible first | exact HB.out | apply below_alloc | apply pw_below_drewN | apply below_drew1) | exact HB.out)⟩⟩
          case round =>
           clear H'
           try clear c1
           try clear c2
           try clear p2
           try clear c3
           try clear c3b0
           try clear c4
           try clear c5
           try clear p6
           try clear c8
           try clear c8b0
           try clear c8b1
           try clear c8b2
           try clear c10
           try clear c16
           try clear c16b0
           try clear c16b1
           try clear c19
           try clear c21
           try clear c21b0
           try clear c21b1
           try clear c22
           try clear c22b0
           try clear c22b1
           try clear c23
           try clear p2
           try clear p6
           obtain ⟨x7_2,x8_2,rfl,HA,HK2,HO_7,HB⟩ := hrel
           cases gk with
           | zero => exact absurd HA.out (by simp [tabardref1_Shl.l0])
           | succ k2 =>
            have H := HA.out
            clear HA
            simp only [tabardref1_Shl.l0] at H
            by_cases c27 : x8_2 < (Int.tmod a1 32)
            ·rw [if_pos c27] at H
             have c27b0 : decide (x8_2 < (Int.tmod a1 32)) = true := decide_eq_true c27
             clear c27
             replace H := Option.bind_eq_some_iff.mp H
             obtain ⟨t512,A280,H⟩ := H
             replace H : (tabardref1_Shl.l0 k2 a1 t512 (wrap64 (x8_2 + 1))) = some (r1,r2) := H
             have A28 := Aside0.mk A280
             clear A280
             have H' := Aside0.mk H
             clear H
             obtain ⟨Ao29,co29,eo29⟩ := Kd.R_slice HO_7.out
             subst eo29
             go_wp2_with (first | ((with_reducible refine gate_callee (f := 53) rfl ?_);refine goesL_ (some 40) rfl rfl Tryz.func53 (by kernel_rfl) rfl #[.slice Ao29 x7_2.length co29,.bool false] rfl am_ ?_;(with_reducible refine (tabardref1_Twice.calls k2 _ _ x7_2 false t512 _ ?side1 ?side2 A28.out).mono ?_);(case side1 => exact ca_ (Kd.R_reads' HO_7.out).2.2);(case side2 => exact (Kd.R_reads' HO_7.out).2.1);rintro e w30 ⟨v513,rfl,ho0,hb⟩;refine ⟨_,rfl,?_⟩;have HO514 := Aside0.mk (Kd.R_lower (Kd.R_new' ho0 (Kd.R_lt (ra_ HO_7.out))) (below_size bl_));replace HO_7 := Aside0.mk (Kd.R_elder' (ra_ HO_7.out) (Kd.R_base ho0) hb);replace HB := Aside0.mk (below_step bl_ hb);(try clear hb);(try clear hb2);(try clear hk);(try clear hi);(try clear ho0)))
             go_roundg k2
             case measure => have := HJ11.out;have := HK2.out;omega
             case rel => exact ⟨(t512),(wrap64 (x8_2 + 1)),(by first | rfl | (simp;done) | (simp [*];done)),(by first | exact H' | (rw [hji20];exact H')),⟨by have := HJ11.out;have := HK2.out;omega⟩,⟨by (with_reducible repeat (first | apply Kd.R_alloc | apply Kd.R_drewN | apply Kd.R_drew));exact Kd.R_mono HO514.out (fun _ hk => trivial)⟩,⟨by repeat (first | (with_reducible first | exact HB.out | apply below_alloc | apply pw_below_drewN | apply below_drew1) | exact HB.out)⟩⟩
            ·rw [if_neg c27] at H
             have c27b0 : decide (x8_2 < (Int.tmod a1 32)) = false := decide_eq_false c27
             clear c27
             replace H := Option.bind_eq_some_iff.mp H
             obtain ⟨t515,A310,H⟩ := H
             replace H : (some (t515,0)) = some (r1,r2) := H
             have A31 := Aside0.mk A310
             clear A310
             simp only [Option.some.injEq,Prod.mk.injEq] at H
             obtain ⟨rfl,rfl⟩ := H
             obtain ⟨Ao32,co32,eo32⟩ := Kd.R_slice HO_7.out
             subst eo32
             go_wp2_with (first | ((with_reducible refine gate_callee (f := 10) rfl ?_);refine goesL_ (some 42) rfl rfl Tryz.func10 (by kernel_rfl) rfl #[.slice Ao32 x7_2.length co32] rfl am_ ?_;(with_reducible refine (tabardref1_Trim.calls k2 _ _ x7_2 t515 _ ?side1 ?side2 A31.out).mono ?_);(case side1 => exact ca_ (Kd.R_reads' HO_7.out).2.2);(case side2 => exact (Kd.R_reads' HO_7.out).2.1);rintro e w33 ⟨v516,rfl,ho0,hb⟩;refine ⟨_,rfl,?_⟩;have HO517 := Aside0.mk (Kd.R_lower (Kd.R_new' ho0 (Kd.R_lt (ra_ HO_7.out))) (below_size bl_));replace HO_7 := Aside0.mk (Kd.R_elder' (ra_ HO_7.out) (Kd.R_base ho0) hb);replace HB := Aside0.mk (below_step bl_ hb);(try clear hb);(try clear hb2);(try clear hk);(try clear hi);(try clear ho0)))
             go_ret2
             exact ⟨_,by first | rfl | (simp [errW_none,errW_some] <;> rfl) | (simp only [← hji20];first | rfl | (simp [errW_none,errW_some] <;> rfl)) | (simp [*,errW_none,errW_some] <;> rfl),by (with_reducible repeat (first | apply Kd.R_alloc | apply Kd.R_drewN | apply Kd.R_drew));exact Kd.R_mono HO517.out (fun _ hk => trivial),by repeat (first | (with_reducible first | exact HB.out | apply below_alloc | apply pw_below_drewN | apply below_drew1) | exact HB.out)⟩
         ·rw [if_neg c23] at H
          exact absurd H (by simp)
        ·rw [if_neg c22] at H
         exact absurd H (by simp)
       ·rw [if_neg c21] at H
        exact absurd H (by simp)

end Go.Proofs.YtfcenlhaepckoaaGreatDoor.P
