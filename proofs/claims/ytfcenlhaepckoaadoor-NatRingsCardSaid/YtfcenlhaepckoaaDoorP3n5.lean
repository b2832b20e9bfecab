-- Printed by a program of this session (wip/tools) over the kit's print: not trusted, Lean checks it.
import Derived.Test.YtfcenlhaepckoaaDoorP0n5
import Derived.Test.YtfcenlhaepckoaaDoorProg
import Derived.Test.YtfcenlhaepckoaaDoorElibn5
import Derived.Test.YtfcenlhaepckoaaDoorSqn5
import Derived.Test.YtfcenlhaepckoaaDoorP1n5
import Derived.Test.YtfcenlhaepckoaaDoorP2n5
import Derived.Test.YtfcenlhaepckoaaDoorLibsn5
namespace Go.Proofs.YtfcenlhaepckoaaDoor.P
set_option linter.all false
open Go.RowKit Go.Proofs.YtfcenlhaepckoaaDoorW.PrintWords Go.Proofs.YtfcenlhaepckoaaDoorW.PrintLast Go.Proofs.YtfcenlhaepckoaaDoorW.PrintMore
attribute [local go_sem] max2_int min2_int max_two min_two max_three min_three max_four min_four   -- for this text's walks alone
attribute [local go_sem] cell_after
set_option linter.unusedVariables false
set_option linter.unusedSimpArgs false

/-! ### nat_Sub: function 9 -/
def nat_Sub.l0 : Nat → List Int → List Int → List Int → Int → Int → Int → Option (List Int × Int)
 | 0,_,_,_,_,_,_ => none
 | k + 1,x0,x1,x6,x7,x28,x29 => if x29 < x28 then (if x29 < (x1.length : Int) then (if 0 ≤ x29 then (if x29 < (x0.length : Int) then ((bits_Sub32.f (rd x0 x29) (rd x1 x29) x7).bind fun bt190 => (if x29 < (x6.length : Int) then (nat_Sub.l0 k x0 x1 (x6.set (x29 : Int).toNat bt190.1) bt190.2 x28 (wrap64 (x29 + 1))) else (none))) else (none)) else (none)) else (if 0 ≤ x29 then (if x29 < (x0.length : Int) then ((bits_Sub32.f (rd x0 x29) 0 x7).bind fun bt194 => (if x29 < (x6.length : Int) then (nat_Sub.l0 k x0 x1 (x6.set (x29 : Int).toNat bt194.1) bt194.2 x28 (wrap64 (x29 + 1))) else (none))) else (none)) else (none))) else ((nat_right.f k x6).bind fun t197 => (if 0 ≤ t197 then (if t197 ≤ (x6.length : Int) then (some ((x6.take (t197 : Int).toNat),0)) else (none)) else (none)))
def nat_Sub.f (k : Nat) (l0 : List Int) (l1 : List Int) : Option (List Int × Int) := (nat_over.f k (([l0,l1] : List (List Int)))).bind fun t171 => (if t171 = true then (some (([] : List Int),2)) else ((nat_Cmp.f k l0 l1).bind fun t172 => (if t172 < 0 then (some (([] : List Int),6)) else ((nat_right.f k l0).bind fun t173 => (if 0 ≤ t173 then (if t173 ≤ (l0.length : Int) then ((some (l0.take (t173 : Int).toNat : List Int)).bind fun y174 => ((nat_right.f k l1).bind fun t179 => (if 0 ≤ t179 then (if t179 ≤ (l1.length : Int) then (if 0 ≤ (y174.length : Int) then (if ((y174.length : Int) : Int).toNat ≤ 70368744177664 then (nat_Sub.l0 k y174 (l1.take (t179 : Int).toNat) (List.replicate ((y174.length : Int) : Int).toNat 0) 0 (y174.length : Int) 0) else (none)) else (none)) else (none)) else (none)))) else (none)) else (none))))))
set_option maxHeartbeats 8000000 in
set_option maxRecDepth 100000 in
theorem nat_Sub.calls (k : Nat) (P0_ : Nat → Prop) (A0 : Option Addr) (c0 : Nat) (l0 : List Int) (P1_ : Nat → Prop) (A1 : Option Addr) (c1 : Nat) (l1 : List Int) (r1 : List Int) (r2 : Int) (w : World) (hs0 : Kd.V (Kd.int .u32) 43 w w.heap.size (fun k_ => P0_ k_) (.slice A0 l0.length c0) l0) (hs1 : Kd.V (Kd.int .u32) 43 w w.heap.size (fun k_ => P1_ k_) (.slice A1 l1.length c1) l1) (h : nat_Sub.f k l0 l1 = some (r1,r2)) :
  Calls Tryd.prog 9 #[.slice A0 l0.length c0,.slice A1 l1.length c1] w fun e w' => ∃ v0_ : Value,e = .returned (.tuple #[v0_,.int .i64 r2]) ∧ Kd.R (Kd.int .u32) 43 w' w.heap.size (fun k_ => (w.heap.size ≤ k_)) v0_ r1 ∧ Below w.heap.size w w' := by
 have HO0 := Aside0.mk (show Kd.V (Kd.int .u32) 43 w w.heap.size (fun k_ => ((P0_ k_ ∨ P1_ k_) ∨ w.heap.size ≤ k_)) (.slice A0 l0.length c0) l0 from Kd.V_mono hs0 (fun k_ hk => .inl (.inl hk)))
 have HO1 := Aside0.mk (show Kd.V (Kd.int .u32) 43 w w.heap.size (fun k_ => ((P0_ k_ ∨ P1_ k_) ∨ w.heap.size ≤ k_)) (.slice A1 l1.length c1) l1 from Kd.V_mono hs1 (fun k_ hk => .inl (.inr hk)))
 have HB := Aside0.mk (Below.refl w.heap.size w)
 have H : ((nat_over.f k (([l0,l1] : List (List Int)))).bind fun t171 => (if t171 = true then (some (([] : List Int),2)) else ((nat_Cmp.f k l0 l1).bind fun t172 => (if t172 < 0 then (some (([] : List Int),6)) else ((nat_right.f k l0).bind fun t173 => (if 0 ≤ t173 then (if t173 ≤ (l0.length : Int) then ((some (l0.take (t173 : Int).toNat : List Int)).bind fun y174 => ((nat_right.f k l1).bind fun t179 => (if 0 ≤ t179 then (if t179 ≤ (l1.length : Int) then (if 0 ≤ (y174.length : Int) then (if ((y174.length : Int) : Int).toNat ≤ 70368744177664 then (nat_Sub.l0 k y174 (l1.take (t179 : Int).toNat) (List.replicate ((y174.length : Int) : Int).toNat 0) 0 (y174.length : Int) 0) else (none)) else (none)) else (none)) else (none)))) else (none)) else (none))))))) = some (r1,r2) := h
 clear h
 obtain ⟨y168,hy168⟩ : ∃ y_ : List (List Int),y_ = (([l0,l1] : List (List Int))) := ⟨_,rfl⟩
 replace H : ((nat_over.f k y168).bind fun t171 => (if t171 = true then (some (([] : List Int),2)) else ((nat_Cmp.f k l0 l1).bind fun t172 => (if t172 < 0 then (some (([] : List Int),6)) else ((nat_right.f k l0).bind fun t173 => (if 0 ≤ t173 then (if t173 ≤ (l0.length : Int) then ((some (l0.take (t173 : Int).toNat : List Int)).bind fun y174 => ((nat_right.f k l1).bind fun t179 => (if 0 ≤ t179 then (if t179 ≤ (l1.length : Int) then (if 0 ≤ (y174.length : Int) then (if ((y174.length : Int) : Int).toNat ≤ 70368744177664 then (nat_Sub.l0 k y174 (l1.take (t179 : Int).toNat) (List.replicate ((y174.length : Int) : Int).toNat 0) 0 (y174.length : Int) 0) else (none)) else (none)) else (none)) else (none)))) else (none)) else (none))))))) = some (r1,r2) := by first | (rw [hy168];with_reducible exact H) | (have H2_ := (Option.bind_some _ _).symm.trans H;rw [hy168];with_reducible exact H2_) | (have H2_ := (Option.bind_some _ _).symm.trans H;with_reducible exact H2_) | with_reducible exact H | (rw [hy168];exact H) | exact H
 have Ny168 := Aside0.mk hy168
 clear hy168
 replace H := Option.bind_eq_some_iff.mp H
 obtain ⟨t171,A30,H⟩ := H
 replace H : (if t171 = true then (some (([] : List Int),2)) else ((nat_Cmp.f k l0 l1).bind fun t172 => (if t172 < 0 then (some (([] : List Int),6)) else ((nat_right.f k l0).bind fun t173 => (if 0 ≤ t173 then (if t173 ≤ (l0.length : Int) then ((some (l0.take (t173 : Int).toNat : List Int)).bind fun y174 => ((nat_right.f k l1).bind fun t179 => (if 0 ≤ t179 then (if t179 ≤ (l1.length : Int) then (if 0 ≤ (y174.length : Int) then (if ((y174.length : Int) : Int).toNat ≤ 70368744177664 then (nat_Sub.l0 k y174 (l1.take (t179 : Int).toNat) (List.replicate ((y174.length : Int) : Int).toNat 0) 0 (y174.length : Int) 0) else (none)) else (none)) else (none)) else (none)))) else (none)) else (none)))))) = some (r1,r2) := H
 have A3 := Aside0.mk A30
 clear A30
 by_cases c4 : t171 = true
 ·subst c4
  have H1 : (some (([] : List Int),2)) = some (r1,r2) := by rw [if_pos rfl] at H;exact H
  clear H
  have H := H1
  clear H1
  simp only [Option.some.injEq,Prod.mk.injEq] at H
  obtain ⟨rfl,rfl⟩ := H
  go_enter Tryd.func9,Tryd.ntmps9
  go_wp2_with (first | ((with_reducible refine gate_dst (N := 13) rfl ?_);refine Kd.N_lit (Kd.slice 43 (Kd.int .u32)) _ 24 ?hg (N' := 13) ?hd (xs := ([l0,l1] : List (List Int))) (inner := [.slice A0 l0.length c0,.slice A1 l1.length c1]) (ok := (fun k_ => ((P0_ k_ ∨ P1_ k_) ∨ w.heap.size ≤ k_))) (okp := (fun k_ => ((P0_ k_ ∨ P1_ k_) ∨ w.heap.size ≤ k_))) ?hr ?hp (fun _ hk => hk) ((show ∀ k_,w.heap.size ≤ k_ → (fun k_ => ((P0_ k_ ∨ P1_ k_) ∨ w.heap.size ≤ k_)) k_ from fun k_ hk => (.inr (Nat.le_trans (below_size bl_) hk))) _ (Nat.le_refl _)) (Below.refl _ _) (Nat.le_refl _) (by simp) ?_;(case hd => rfl);(case hg => rfl);(case hr => first | (go_simp;done) | (go_simp;rfl));(case hp => exact (Reps.one (show Kd.FK (Kd.slice 43 (Kd.int .u32)) _ _ l0 [.slice A0 l0.length c0] from (Kd.FK_slice_mk (Kd.V_reads' (Kd.V_mono (ok' := (fun k_ => ((P0_ k_ ∨ P1_ k_) ∨ w.heap.size ≤ k_))) (HO0.out) (fun k_ hk => hk))).2.1 (Kd.V_F (Kd.V_mono (ok' := (fun k_ => ((P0_ k_ ∨ P1_ k_) ∨ w.heap.size ≤ k_))) (HO0.out) (fun k_ hk => hk))))) (Reps.one (show Kd.FK (Kd.slice 43 (Kd.int .u32)) _ _ l1 [.slice A1 l1.length c1] from (Kd.FK_slice_mk (Kd.V_reads' (Kd.V_mono (ok' := (fun k_ => ((P0_ k_ ∨ P1_ k_) ∨ w.heap.size ≤ k_))) (HO1.out) (fun k_ hk => hk))).2.1 (Kd.V_F (Kd.V_mono (ok' := (fun k_ => ((P0_ k_ ∨ P1_ k_) ∨ w.heap.size ≤ k_))) (HO1.out) (fun k_ hk => hk))))) (Reps.none _ _))));intro v169 w5 ho6 hb hg_ hnew_;clear hg_ hnew_;(first | rw [← Ny168.out] at ho6 | (simp only [Int.reduceToNat] at ho6;rw [← Ny168.out] at ho6));replace HO0 := Aside0.mk (Kd.V_elder' (va_ HO0.out) (Kd.N_base ho6) hb);replace HO1 := Aside0.mk (Kd.V_elder' (va_ HO1.out) (Kd.N_base ho6) hb);have HO170 := Aside0.mk (Kd.N_lower ho6 (below_size bl_));replace HB := Aside0.mk (below_step bl_ hb);clear hb ho6;obtain ⟨Ao7,co7,eo7⟩ := Kd.N_slice HO170.out;subst eo7) | ((with_reducible refine gate_callee (f := 24) rfl ?_);refine goesL_ (some 14) rfl rfl Tryd.func24 (by kernel_rfl) rfl #[.slice Ao7 y168.length co7] rfl am_ ?_;(with_reducible refine (nat_over.calls k _ _ y168 true _ ?side1 ?side2 A3.out).mono ?_);(case side1 => exact ca_ (Kd.N_reads' HO170.out).2.2);(case side2 => exact (Kd.N_reads' HO170.out).2.1);rintro e w' ⟨rfl,⟨nd,rfl⟩⟩;refine ⟨_,rfl,?_⟩))
  go_ret2
  exact ⟨_,by first | rfl | (simp [errW_none,errW_some] <;> rfl) | (simp [*,errW_none,errW_some] <;> rfl),by first | exact Kd.R_nil _ _ _ _ _ | exact Kd.N_nil _ _ _ _ _ | exact Kd.V_nil _ _ _ _ _ | exact Kd.Q_nil _ _ _ _ _ | exact Kd.S_nil _ _ _ _ _,by repeat (first | (with_reducible first | exact HB.out | apply below_alloc | apply pw_below_drewN | apply below_drew1) | exact HB.out)⟩
 ·replace c4 := Bool.eq_false_iff.mpr c4
  subst c4
  have H1 : ((nat_Cmp.f k l0 l1).bind fun t172 => (if t172 < 0 then (some (([] : List Int),6)) else ((nat_right.f k l0).bind fun t173 => (if 0 ≤ t173 then (if t173 ≤ (l0.length : Int) then ((some (l0.take (t173 : Int).toNat : List Int)).bind fun y174 => ((nat_right.f k l1).bind fun t179 => (if 0 ≤ t179 then (if t179 ≤ (l1.length : Int) then (if 0 ≤ (y174.length : Int) then (if ((y174.length : Int) : Int).toNat ≤ 70368744177664 then (nat_Sub.l0 k y174 (l1.take (t179 : Int).toNat) (List.replicate ((y174.length : Int) : Int).toNat 0) 0 (y174.length : Int) 0) else (none)) else (none)) else (none)) else (none)))) else (none)) else (none))))) = some (r1,r2) := by rw [if_neg (show ¬ (false = true) by decide)] at H;exact H
  clear H
  have H := H1
  clear H1
  replace H := Option.bind_eq_some_iff.mp H
  obtain ⟨t172,A80,H⟩ := H
  replace H : (if t172 < 0 then (some (([] : List Int),6)) else ((nat_right.f k l0).bind fun t173 => (if 0 ≤ t173 then (if t173 ≤ (l0.length : Int) then ((some (l0.take (t173 : Int).toNat : List Int)).bind fun y174 => ((nat_right.f k l1).bind fun t179 => (if 0 ≤ t179 then (if t179 ≤ (l1.length : Int) then (if 0 ≤ (y174.length : Int) then (if ((y174.length : Int) : Int).toNat ≤ 70368744177664 then (nat_Sub.l0 k y174 (l1.take (t179 : Int).toNat) (List.replicate ((y174.length : Int) : Int).toNat 0) 0 (y174.length : Int) 0) else (none)) else (none)) else (none)) else (none)))) else (none)) else (none)))) = some (r1,r2) := H
  have A8 := Aside0.mk A80
  clear A80
  by_cases c9 : t172 < 0
  ·rw [if_pos c9] at H
   have c9b0 : decide (t172 < 0) = true := decide_eq_true c9
   clear c9
   simp only [Option.some.injEq,Prod.mk.injEq] at H
   obtain ⟨rfl,rfl⟩ := H
   go_enter Tryd.func9,Tryd.ntmps9
   go_wp2_with (first | ((with_reducible refine gate_dst (N := 13) rfl ?_);refine Kd.N_lit (Kd.slice 43 (Kd.int .u32)) _ 24 ?hg (N' := 13) ?hd (xs := ([l0,l1] : List (List Int))) (inner := [.slice A0 l0.length c0,.slice A1 l1.length c1]) (ok := (fun k_ => ((P0_ k_ ∨ P1_ k_) ∨ w.heap.size ≤ k_))) (okp := (fun k_ => ((P0_ k_ ∨ P1_ k_) ∨ w.heap.size ≤ k_))) ?hr ?hp (fun _ hk => hk) ((show ∀ k_,w.heap.size ≤ k_ → (fun k_ => ((P0_ k_ ∨ P1_ k_) ∨ w.heap.size ≤ k_)) k_ from fun k_ hk => (.inr (Nat.le_trans (below_size bl_) hk))) _ (Nat.le_refl _)) (Below.refl _ _) (Nat.le_refl _) (by simp) ?_;(case hd => rfl);(case hg => rfl);(case hr => first | (go_simp;done) | (go_simp;rfl));(case hp => exact (Reps.one (show Kd.FK (Kd.slice 43 (Kd.int .u32)) _ _ l0 [.slice A0 l0.length c0] from (Kd.FK_slice_mk (Kd.V_reads' (Kd.V_mono (ok' := (fun k_ => ((P0_ k_ ∨ P1_ k_) ∨ w.heap.size ≤ k_))) (HO0.out) (fun k_ hk => hk))).2.1 (Kd.V_F (Kd.V_mono (ok' := (fun k_ => ((P0_ k_ ∨ P1_ k_) ∨ w.heap.size ≤ k_))) (HO0.out) (fun k_ hk => hk))))) (Reps.one (show Kd.FK (Kd.slice 43 (Kd.int .u32)) _ _ l1 [.slice A1 l1.length c1] from (Kd.FK_slice_mk (Kd.V_reads' (Kd.V_mono (ok' := (fun k_ => ((P0_ k_ ∨ P1_ k_) ∨ w.heap.size ≤ k_))) (HO1.out) (fun k_ hk => hk))).2.1 (Kd.V_F (Kd.V_mono (ok' := (fun k_ => ((P0_ k_ ∨ P1_ k_) ∨ w.heap.size ≤ k_))) (HO1.out) (fun k_ hk => hk))))) (Reps.none _ _))));intro v169 w10 ho11 hb hg_ hnew_;clear hg_ hnew_;(first | rw [← Ny168.out] at ho11 | (simp only [Int.reduceToNat] at ho11;rw [← Ny168.out] at ho11));replace HO0 := Aside0.mk (Kd.V_elder' (va_ HO0.out) (Kd.N_base ho11) hb);replace HO1 := Aside0.mk (Kd.V_elder' (va_ HO1.out) (Kd.N_base ho11) hb);have HO170 := Aside0.mk (Kd.N_lower ho11 (below_size bl_));replace HB := Aside0.mk (below_step bl_ hb);clear hb ho11;obtain ⟨Ao12,co12,eo12⟩ := Kd.N_slice HO170.out;subst eo12) | ((with_reducible refine gate_callee (f := 24) rfl ?_);refine goesL_ (some 14) rfl rfl Tryd.func24 (by kernel_rfl) rfl #[.slice Ao12 y168.length co12] rfl am_ ?_;(with_reducible refine (nat_over.calls k _ _ y168 false _ ?side1 ?side2 A3.out).mono ?_);(case side1 => exact ca_ (Kd.N_reads' HO170.out).2.2);(case side2 => exact (Kd.N_reads' HO170.out).2.1);rintro e w' ⟨rfl,⟨nd,rfl⟩⟩;refine ⟨_,rfl,?_⟩) | ((with_reducible refine gate_callee (f := 15) rfl ?_);refine goesL_ (some 18) rfl rfl Tryd.func15 (by kernel_rfl) rfl #[.slice A0 l0.length c0,.slice A1 l1.length c1] rfl am_ ?_;(with_reducible refine (nat_Cmp.calls k _ _ l0 _ _ l1 t172 _ ?side1 ?side2 ?side3 ?side4 A8.out).mono ?_);(case side1 => exact ca_ (Kd.V_reads' HO0.out).2.2);(case side2 => exact (Kd.V_reads' HO0.out).2.1);(case side3 => exact ca_ (Kd.V_reads' HO1.out).2.2);(case side4 => exact (Kd.V_reads' HO1.out).2.1);rintro e w' ⟨rfl,⟨nd,rfl⟩⟩;refine ⟨_,rfl,?_⟩))
   go_ret2
   exact ⟨_,by first | rfl | (simp [errW_none,errW_some] <;> rfl) | (simp [*,errW_none,errW_some] <;> rfl),by first | exact Kd.R_nil _ _ _ _ _ | exact Kd.N_nil _ _ _ _ _ | exact Kd.V_nil _ _ _ _ _ | exact Kd.Q_nil _ _ _ _ _ | exact Kd.S_nil _ _ _ _ _,by repeat (first | (with_reducible first | exact HB.out | apply below_alloc | apply pw_below_drewN | apply below_drew1) | exact HB.out)⟩
  ·rw [if_neg c9] at H
   have c9b0 : decide (t172 < 0) = false := decide_eq_false c9
   clear c9
   replace H := Option.bind_eq_some_iff.mp H
   obtain ⟨t173,A130,H⟩ := H
   replace H : (if 0 ≤ t173 then (if t173 ≤ (l0.length : Int) then ((some (l0.take (t173 : Int).toNat : List Int)).bind fun y174 => ((nat_right.f k l1).bind fun t179 => (if 0 ≤ t179 then (if t179 ≤ (l1.length : Int) then (if 0 ≤ (y174.length : Int) then (if ((y174.length : Int) : Int).toNat ≤ 70368744177664 then (nat_Sub.l0 k y174 (l1.take (t179 : Int).toNat) (List.replicate ((y174.length : Int) : Int).toNat 0) 0 (y174.length : Int) 0) else (none)) else (none)) else (none)) else (none)))) else (none)) else (none)) = some (r1,r2) := H
   have A13 := Aside0.mk A130
   clear A130
   by_cases c14 : 0 ≤ t173
   ·rw [if_pos c14] at H
    have c14b0 := eq_true c14
    have c14b1 : decide (0 ≤ t173) = true := decide_eq_true c14
    clear c14
    by_cases c15 : t173 ≤ (l0.length : Int)
    ·rw [if_pos c15] at H
     have c15b0 := eq_true c15
     have c15b1 : decide (t173 ≤ (l0.length : Int)) = true := decide_eq_true c15
     clear c15
     obtain ⟨y174,hy174⟩ : ∃ y_ : List Int,y_ = (l0.take (t173 : Int).toNat) := ⟨_,rfl⟩
     replace H : ((nat_right.f k l1).bind fun t179 => (if 0 ≤ t179 then (if t179 ≤ (l1.length : Int) then (if 0 ≤ (y174.length : Int) then (if ((y174.length : Int) : Int).toNat ≤ 70368744177664 then (nat_Sub.l0 k y174 (l1.take (t179 : Int).toNat) (List.replicate ((y174.length : Int) : Int).toNat 0) 0 (y174.length : Int) 0) else (none)) else (none)) else (none)) else (none))) = some (r1,r2) := by first | (rw [hy174];with_reducible exact H) | (have H2_ := (Option.bind_some _ _).symm.trans H;rw [hy174];with_reducible exact H2_) | (have H2_ := (Option.bind_some _ _).symm.trans H;with_reducible exact H2_) | with_reducible exact H | (rw [hy174];exact H) | exact H
     have Ny174 := Aside0.mk hy174
     clear hy174
     replace H := Option.bind_eq_some_iff.mp H
     obtain ⟨t179,A160,H⟩ := H
     replace H : (if 0 ≤ t179 then (if t179 ≤ (l1.length : Int) then (if 0 ≤ (y174.length : Int) then (if ((y174.length : Int) : Int).toNat ≤ 70368744177664 then (nat_Sub.l0 k y174 (l1.take (t179 : Int).toNat) (List.replicate ((y174.length : Int) : Int).toNat 0) 0 (y174.length : Int) 0) else (none)) else (none)) else (none)) else (none)) = some (r1,r2) := H
     have A16 := Aside0.mk A160
     clear A160
     by_cases c17 : 0 ≤ t179
     ·rw [if_pos c17] at H
      have c17b0 := eq_true c17
      have c17b1 : decide (0 ≤ t179) = true := decide_eq_true c17
      clear c17
      by_cases c18 : t179 ≤ (l1.length : Int)
      ·rw [if_pos c18] at H
       have c18b0 := eq_true c18
       have c18b1 : decide (t179 ≤ (l1.length : Int)) = true := decide_eq_true c18
       clear c18
       obtain ⟨y180,hy180⟩ : ∃ y_ : List Int,y_ = (l1.take (t179 : Int).toNat) := ⟨_,rfl⟩
       replace H : (if 0 ≤ (y174.length : Int) then (if ((y174.length : Int) : Int).toNat ≤ 70368744177664 then (nat_Sub.l0 k y174 y180 (List.replicate ((y174.length : Int) : Int).toNat 0) 0 (y174.length : Int) 0) else (none)) else (none)) = some (r1,r2) := by first | (rw [hy180];with_reducible exact H) | (have H2_ := (Option.bind_some _ _).symm.trans H;rw [hy180];with_reducible exact H2_) | (have H2_ := (Option.bind_some _ _).symm.trans H;with_reducible exact H2_) | with_reducible exact H | (rw [hy180];exact H) | exact H
       have Ny180 := Aside0.mk hy180
       clear hy180
       by_cases c19 : 0 ≤ (y174.length : Int)
       ·rw [if_pos c19] at H
        have c19b0 := eq_true c19
        have c19b1 : decide (0 ≤ (y174.length : Int)) = true := decide_eq_true c19
        clear c19
        by_cases c20 : ((y174.length : Int) : Int).toNat ≤ 70368744177664
        ·rw [if_pos c20] at H
         have c20b0 := eq_true c20
         have c20b1 : decide (((y174.length : Int) : Int).toNat ≤ 70368744177664) = true := decide_eq_true c20
         clear c20
         obtain ⟨y185,hy185⟩ : ∃ y_ : List Int,y_ = (List.replicate ((y174.length : Int) : Int).toNat 0) := ⟨_,rfl⟩
         replace H : (nat_Sub.l0 k y174 y180 y185 0 (y174.length : Int) 0) = some (r1,r2) := by first | (rw [hy185];with_reducible exact H) | (have H2_ := (Option.bind_some _ _).symm.trans H;rw [hy185];with_reducible exact H2_) | (have H2_ := (Option.bind_some _ _).symm.trans H;with_reducible exact H2_) | with_reducible exact H | (rw [hy185];exact H) | exact H
         have Ny185 := Aside0.mk hy185
         clear hy185
         have H' := Aside0.mk H
         clear H
         go_enter Tryd.func9,Tryd.ntmps9
         go_wp2_with (first | ((with_reducible refine gate_dst (N := 13) rfl ?_);refine Kd.N_lit (Kd.slice 43 (Kd.int .u32)) _ 24 ?hg (N' := 13) ?hd (xs := ([l0,l1] : List (List Int))) (inner := [.slice A0 l0.length c0,.slice A1 l1.length c1]) (ok := (fun k_ => ((P0_ k_ ∨ P1_ k_) ∨ w.heap.size ≤ k_))) (okp := (fun k_ => ((P0_ k_ ∨ P1_ k_) ∨ w.heap.size ≤ k_))) ?hr ?hp (fun _ hk => hk) ((show ∀ k_,w.heap.size ≤ k_ → (fun k_ => ((P0_ k_ ∨ P1_ k_) ∨ w.heap.size ≤ k_)) k_ from fun k_ hk => (.inr (Nat.le_trans (below_size bl_) hk))) _ (Nat.le_refl _)) (Below.refl _ _) (Nat.le_refl _) (by simp) ?_;(case hd => rfl);(case hg => rfl);(case hr => first | (go_simp;done) | (go_simp;rfl));(case hp => exact (Reps.one (show Kd.FK (Kd.slice 43 (Kd.int .u32)) _ _ l0 [.slice A0 l0.length c0] from (Kd.FK_slice_mk (Kd.V_reads' (Kd.V_mono (ok' := (fun k_ => ((P0_ k_ ∨ P1_ k_) ∨ w.heap.size ≤ k_))) (HO0.out) (fun k_ hk => hk))).2.1 (Kd.V_F (Kd.V_mono (ok' := (fun k_ => ((P0_ k_ ∨ P1_ k_) ∨ w.heap.size ≤ k_))) (HO0.out) (fun k_ hk => hk))))) (Reps.one (show Kd.FK (Kd.slice 43 (Kd.int .u32)) _ _ l1 [.slice A1 l1.length c1] from (Kd.FK_slice_mk (Kd.V_reads' (Kd.V_mono (ok' := (fun k_ => ((P0_ k_ ∨ P1_ k_) ∨ w.heap.size ≤ k_))) (HO1.out) (fun k_ hk => hk))).2.1 (Kd.V_F (Kd.V_mono (ok' := (fun k_ => ((P0_ k_ ∨ P1_ k_) ∨ w.heap.size ≤ k_))) (HO1.out) (fun k_ hk => hk))))) (Reps.none _ _))));intro v169 w21 ho22 hb hg_ hnew_;clear hg_ hnew_;(first | rw [← Ny168.out] at ho22 | (simp only [Int.reduceToNat] at ho22;rw [← Ny168.out] at ho22));replace HO0 := Aside0.mk (Kd.V_elder' (va_ HO0.out) (Kd.N_base ho22) hb);replace HO1 := Aside0.mk (Kd.V_elder' (va_ HO1.out) (Kd.N_base ho22) hb);have HO170 := Aside0.mk (Kd.N_lower ho22 (below_size bl_));replace HB := Aside0.mk (below_step bl_ hb);clear hb ho22;obtain ⟨Ao23,co23,eo23⟩ := Kd.N_slice HO170.out;subst eo23) | ((with_reducible refine gate_callee (f := 24) rfl ?_);refine goesL_ (some 14) rfl rfl Tryd.func24 (by kernel_rfl) rfl #[.slice Ao23 y168.length co23] rfl am_ ?_;(with_reducible refine (nat_over.calls k _ _ y168 false _ ?side1 ?side2 A3.out).mono ?_);(case side1 => exact ca_ (Kd.N_reads' HO170.out).2.2);(case side2 => exact (Kd.N_reads' HO170.out).2.1);rintro e w' ⟨rfl,⟨nd,rfl⟩⟩;refine ⟨_,rfl,?_⟩) | ((with_reducible refine gate_callee (f := 15) rfl ?_);refine goesL_ (some 18) rfl rfl Tryd.func15 (by kernel_rfl) rfl #[.slice A0 l0.length c0,.slice A1 l1.length c1] rfl am_ ?_;(with_reducible refine (nat_Cmp.calls k _ _ l0 _ _ l1 t172 _ ?side1 ?side2 ?side3 ?side4 A8.out).mono ?_);(case side1 => exact ca_ (Kd.V_reads' HO0.out).2.2);(case side2 => exact (Kd.V_reads' HO0.out).2.1);(case side3 => exact ca_ (Kd.V_reads' HO1.out).2.2);(case side4 => exact (Kd.V_reads' HO1.out).2.1);rintro e w' ⟨rfl,⟨nd,rfl⟩⟩;refine ⟨_,rfl,?_⟩) | ((with_reducible refine gate_callee (f := 25) rfl ?_);refine goesL_ (some 21) rfl rfl Tryd.func25 (by kernel_rfl) rfl #[.slice A0 l0.length c0] rfl am_ ?_;(with_reducible refine (nat_cut_read.calls (l' := y174) (hl' := Ny174.out) k _ _ l0 t173 _ ?side1 ?side2 A13.out).mono ?_);(case side1 => exact ca_ (Kd.V_reads' HO0.out).2.2);(case side2 => exact (Kd.V_reads' HO0.out).2.1);rintro e w' ⟨rfl,⟨nd,rfl⟩⟩;refine ⟨_,rfl,?_⟩;have q24 : (t173 : Int) ≤ ((l0.length : Int) : Int) := od_;obtain ⟨i024,hi024,_,hsz24,_⟩ := info_parts info43;have hroom24 : l0.length ≤ c0 := (Kd.V_reads' HO0.out).2.1;have hC24 : Kd.F (Kd.int .u32) _ _ A0 l0.length l0 := (Kd.V_at (base := w.heap.size) HO0.out).2.2;have hcut24 := cut_to (P := Tryd.prog) 24 43 .i64 Tryd.underlying24 hi024 A0 l0.length c0 t173 od_ q24 hroom24;have hr24 := Kd.F_take (m := (t173 : Int).toNat) hC24 (by omega);have hy24 : y174.length = (t173 : Int).toNat := (by rw [Ny174.out,List.length_take];omega);rw [← Ny174.out] at hr24;rw [← hy24] at hcut24;have HO178 := Aside0.mk (show Kd.V (Kd.int .u32) 43 _ w.heap.size _ (.slice A0 y174.length c0) y174 from Kd.V_mk (by omega) hr24);have HC178 := Aside0.mk (show y174.length ≤ c0 from by omega);clear hr24 hC24 hroom24 hi024 hsz24;have KY24 := Aside0.mk hy24;clear hy24;replace q24 := eq_true q24) | ((with_reducible refine gate_callee (f := 25) rfl ?_);refine goesL_ (some 23) rfl rfl Tryd.func25 (by kernel_rfl) rfl #[.slice A1 l1.length c1] rfl am_ ?_;(with_reducible refine (nat_cut_read.calls (l' := y180) (hl' := Ny180.out) k _ _ l1 t179 _ ?side1 ?side2 A16.out).mono ?_);(case side1 => exact ca_ (Kd.V_reads' HO1.out).2.2);(case side2 => exact (Kd.V_reads' HO1.out).2.1);rintro e w' ⟨rfl,⟨nd,rfl⟩⟩;refine ⟨_,rfl,?_⟩;have q25 : (t179 : Int) ≤ ((l1.length : Int) : Int) := od_;obtain ⟨i025,hi025,_,hsz25,_⟩ := info_parts info43;have hroom25 : l1.length ≤ c1 := (Kd.V_reads' HO1.out).2.1;have hC25 : Kd.F (Kd.int .u32) _ _ A1 l1.length l1 := (Kd.V_at (base := w.heap.size) HO1.out).2.2;have hcut25 := cut_to (P := Tryd.prog) 24 43 .i64 Tryd.underlying24 hi025 A1 l1.length c1 t179 od_ q25 hroom25;have hr25 := Kd.F_take (m := (t179 : Int).toNat) hC25 (by omega);have hy25 : y180.length = (t179 : Int).toNat := (by rw [Ny180.out,List.length_take];omega);rw [← Ny180.out] at hr25;rw [← hy25] at hcut25;have HO184 := Aside0.mk (show Kd.V (Kd.int .u32) 43 _ w.heap.size _ (.slice A1 y180.length c1) y180 from Kd.V_mk (by omega) hr25);have HC184 := Aside0.mk (show y180.length ≤ c1 from by omega);clear hr25 hC25 hroom25 hi025 hsz25;have KY25 := Aside0.mk hy25;clear hy25;replace q25 := eq_true q25) | ((with_reducible refine gate_dst (N := 26) rfl ?_);refine Kd.R_make (Kd.int .u32) _ 43 rfl (N := 26) rfl 24 _ _ rfl (y174.length : Int) rfl rfl Tryd.underlying24 (.int .u32 0) 4 info43 rfl (by decide) (by omega) 0 (ok := fun _ => True) (okp := fun _ => True) rfl (fun _ hk => hk) trivial od_ (Nat.le_trans (Nat.mul_le_mul_right _ (od_ : (y174.length : Int).toNat ≤ 70368744177664)) (by omega)) (Below.refl _ _) (Nat.le_refl _) ?_;intro v186 w26 ho27 hb hg_ hnew_;clear hg_ hnew_;(first | rw [← Ny185.out] at ho27 | (simp only [Int.reduceToNat] at ho27;rw [← Ny185.out] at ho27));replace HO0 := Aside0.mk (Kd.V_elder' (va_ HO0.out) (Kd.R_base ho27) hb);replace HO1 := Aside0.mk (Kd.V_elder' (va_ HO1.out) (Kd.R_base ho27) hb);replace HO170 := Aside0.mk (Kd.N_elder' (by (with_reducible repeat (first | apply Kd.N_alloc | apply Kd.N_drewN | apply Kd.N_drew));exact HO170.out) (Kd.R_base ho27) hb);replace HO178 := Aside0.mk (Kd.V_elder' (va_ HO178.out) (Kd.R_base ho27) hb);replace HO184 := Aside0.mk (Kd.V_elder' (va_ HO184.out) (Kd.R_base ho27) hb);have HO187 := Aside0.mk (Kd.R_lower (Kd.R_newM (M := fun k_ => (w.heap.size ≤ k_)) ho27 (below_size bl_) (fun k_ h_ => h_)) (below_size bl_));replace HB := Aside0.mk (below_step bl_ hb);clear hb ho27))
         go_loopg [7,29] k (fun kq v7 v29 w' => ∃ (x6_1 : List Int) (x7_1 : Int) (x29_1 : Int),v7 = .int .u32 x7_1 ∧ v29 = .int .i64 x29_1 ∧ Aside0 (nat_Sub.l0 kq y174 y180 x6_1 x7_1 (y174.length : Int) x29_1 = some (r1,r2)) ∧ Aside0 (kq ≤ k) ∧ Aside0 (Kd.V (Kd.int .u32) 43 w' w.heap.size (fun k_ => ((P0_ k_ ∨ P1_ k_) ∨ w.heap.size ≤ k_) ∧ some k_ ≠ (v186 : Value).ownBlock) (.slice A0 y174.length c0) y174) ∧ Aside0 (Kd.V (Kd.int .u32) 43 w' w.heap.size (fun k_ => ((P0_ k_ ∨ P1_ k_) ∨ w.heap.size ≤ k_) ∧ some k_ ≠ (v186 : Value).ownBlock) (.slice A1 y180.length c1) y180) ∧ Aside0 (Kd.R (Kd.int .u32) 43 w' w.heap.size (fun k_ => (w.heap.size ≤ k_)) v186 x6_1) ∧ Aside0 (Below w.heap.size w w'))
         case atStart => exact ⟨(y185),(0),(0),(by first | rfl | (simp;done) | (simp [*];done)),(by first | rfl | (simp;done) | (simp [*];done)),H',⟨Nat.le_refl _⟩,⟨by (with_reducible repeat (first | apply Kd.V_alloc | apply Kd.V_drewN | apply Kd.V_drew));exact Kd.V_mono HO178.out (fun _ hk => ⟨hk.1.1,hk.2⟩)⟩,⟨by (with_reducible repeat (first | apply Kd.V_alloc | apply Kd.V_drewN | apply Kd.V_drew));exact Kd.V_mono HO184.out (fun _ hk => ⟨hk.1.1,hk.2⟩)⟩,⟨by (with_reducible repeat (first | apply Kd.R_alloc | apply Kd.R_drewN | apply Kd.R_drew));exact Kd.R_mono HO187.out (fun _ hk => hk.1)⟩,⟨by repeat (first | (with_reducible first | exact HB.out | apply below_alloc | apply pw_below_drewN | apply below_drew1) | exact HB.out)⟩⟩
         case round =>
          clear H'
          try clear c1
          try clear c2
          try clear p2
          try clear q2
          try clear c4
          try clear c9
          try clear c9b0
          try clear c14
          try clear c14b0
          try clear c14b1
          try clear c15
          try clear c15b0
          try clear c15b1
          try clear c17
          try clear c17b0
          try clear c17b1
          try clear c18
          try clear c18b0
          try clear c18b1
          try clear c19
          try clear c19b0
          try clear c19b1
          try clear c20
          try clear c20b0
          try clear c20b1
          try clear c24
          try clear q24
          try clear c25
          try clear q25
          try clear q24
          try clear q25
          obtain ⟨x6_1,x7_1,x29_1,rfl,rfl,HA,HK1,HO_0,HO_1,HO_6,HB⟩ := hrel
          cases gk with
          | zero => exact absurd HA.out (by simp [nat_Sub.l0])
          | succ k1 =>
           have H := HA.out
           clear HA
           simp only [nat_Sub.l0] at H
           by_cases c28 : x29_1 < (y174.length : Int)
           ·rw [if_pos c28] at H
            have c28b0 : decide (x29_1 < (y174.length : Int)) = true := decide_eq_true c28
            clear c28
            by_cases c29 : x29_1 < (y180.length : Int)
            ·rw [if_pos c29] at H
             have c29b0 : decide (x29_1 < (y180.length : Int)) = true := decide_eq_true c29
             clear c29
             by_cases c30 : 0 ≤ x29_1
             ·rw [if_pos c30] at H
              have c30b0 : decide (0 ≤ x29_1) = true := decide_eq_true c30
              clear c30
              by_cases c31 : x29_1 < (y174.length : Int)
              ·rw [if_pos c31] at H
               have c31b0 : decide (x29_1 < (y174.length : Int)) = true := decide_eq_true c31
               clear c31
               replace H := Option.bind_eq_some_iff.mp H
               obtain ⟨⟨t190,t191⟩,A320,H⟩ := H
               replace H : (if x29_1 < (x6_1.length : Int) then (nat_Sub.l0 k1 y174 y180 (x6_1.set (x29_1 : Int).toNat t190) t191 (y174.length : Int) (wrap64 (x29_1 + 1))) else (none)) = some (r1,r2) := H
               have A32 := Aside0.mk A320
               clear A320
               by_cases c33 : x29_1 < (x6_1.length : Int)
               ·rw [if_pos c33] at H
                have c33b0 : decide (x29_1 < (x6_1.length : Int)) = true := decide_eq_true c33
                clear c33
                obtain ⟨y192,hy192⟩ : ∃ y_ : List Int,y_ = (x6_1.set (x29_1 : Int).toNat t190) := ⟨_,rfl⟩
                replace H : (nat_Sub.l0 k1 y174 y180 y192 t191 (y174.length : Int) (wrap64 (x29_1 + 1))) = some (r1,r2) := by first | (rw [hy192];with_reducible exact H) | (have H2_ := (Option.bind_some _ _).symm.trans H;rw [hy192];with_reducible exact H2_) | (have H2_ := (Option.bind_some _ _).symm.trans H;with_reducible exact H2_) | with_reducible exact H | (rw [hy192];exact H) | exact H
                have Ny192 := Aside0.mk hy192
                clear hy192
                have H' := Aside0.mk H
                clear H
                have p188 : 0 ≤ (x29_1 : Int) := od_
                have q188 : x29_1 < (y180.length : Int) := od_
                obtain ⟨ad188,e188,hx188_0⟩ := Kd.at_int (Kd.V_reads' HO_1.out).2.2 x29_1 p188 q188
                cases e188
                replace p188 := eq_true p188
                replace q188 := eq_true q188
                have p189 : 0 ≤ (x29_1 : Int) := od_
                have q189 : x29_1 < (y174.length : Int) := od_
                obtain ⟨ad189,e189,hx189_0⟩ := Kd.at_int (Kd.V_reads' HO_0.out).2.2 x29_1 p189 q189
                cases e189
                replace p189 := eq_true p189
                replace q189 := eq_true q189
                go_wp2_with (first | ((with_reducible refine gate_callee (f := 28) rfl ?_);refine goesL_ (some 49) rfl rfl Tryd.func28 (by kernel_rfl) rfl #[.int .u32 (rd y174 x29_1),.int .u32 (rd y180 x29_1),.int .u32 x7_1] rfl am_ ?_;(with_reducible refine (bits_Sub32.calls (rd y174 x29_1) (rd y180 x29_1) x7_1 t190 t191 _ A32.out).mono ?_);rintro e w' ⟨rfl,⟨nd,rfl⟩⟩;refine ⟨_,rfl,?_⟩;(try (rw [drewN_self wr];generalize hq_ : World.drewN wr _ = wr;have n0_ : Aside0 (Kd.V (Kd.int .u32) 43 wr w.heap.size (fun k_ => ((P0_ k_ ∨ P1_ k_) ∨ w.heap.size ≤ k_) ∧ some k_ ≠ (v186 : Value).ownBlock) (.slice (some ad189) y174.length c0) y174) := ⟨by rw [← hq_];exact (va_ HO_0.out)⟩;have n1_ : Aside0 (Kd.V (Kd.int .u32) 43 wr w.heap.size (fun k_ => ((P0_ k_ ∨ P1_ k_) ∨ w.heap.size ≤ k_) ∧ some k_ ≠ (v186 : Value).ownBlock) (.slice (some ad188) y180.length c1) y180) := ⟨by rw [← hq_];exact (va_ HO_1.out)⟩;have n2_ : Aside0 (Kd.R (Kd.int .u32) 43 wr w.heap.size (fun k_ => (w.heap.size ≤ k_)) v186 x6_1) := ⟨by rw [← hq_];exact (ra_ HO_6.out)⟩;have n3_ : Aside0 (Below w.heap.size w wr) := ⟨by rw [← hq_];exact bl_⟩;clear HO_0 HO_1 HO_6 HB hq_;have HO_0 := n0_;have HO_1 := n1_;have HO_6 := n2_;have HB := n3_;clear n0_ n1_ n2_ n3_));have p34 : 0 ≤ (x29_1 : Int) := od_;have q34 : (x29_1 : Int) < ((x6_1.length : Int) : Int) := od_;obtain ⟨go34,co34,eo34,gb34,gl34,cl34,HG34⟩ := Kd.R_form HO_6.out (by omega);(first | cases eo34 | (injection eo34 with ea_ en_ ec_;(first | subst ea_ | (injection ea_ with ea_;subst ea_));subst ec_;clear en_));have GB34 := Aside0.mk gb34;have GG34 := Aside0.mk HG34;clear gb34 gl34 HG34;obtain ⟨hx34_0,hf34_0⟩ := Kd.R_celln 0 HO_6.out (x29_1 : Int) p34 q34;replace p34 := eq_true p34;replace q34 := eq_true q34;obtain ⟨hy35_,hz35_⟩ := Kd.R_celln 0 HO_6.out (x29_1 : Int) od_ od_;have HP35 := Kd.R_putg HO_6.out (x29_1 : Int) t190) | ((with_reducible refine gate_store (t := 43) (p := 52) rfl ?_);refine store_event (t := 43) (p := 52) (v := ?vo_w36) (w1 := (wr.setCell ⟨go34,(x29_1 : Int).toNat,none⟩ (.int .u32 t190))) ?hg ?ho ?hn ?hr ?_;(case ho => rfl);(case hg => rfl);(case hn => rfl);(case hr => first | (go_simp;done) | (go_simp;rfl));intro w36 hw;have hg : wr.grownBy w36 (some go34) := (by rw [hw];exact HP35.2);have hp_ : Kd.R (Kd.int .u32) 43 w36 w.heap.size (fun k_ => (w.heap.size ≤ k_)) (.slice (some ⟨go34,0,none⟩) x6_1.length co34) y192 := (by rw [hw,Ny192.out];exact HP35.1);clear HP35;replace HO_0 := Aside0.mk (Kd.V_afterv (v := (.slice (some ⟨go34,0,none⟩) x6_1.length co34)) (v1 := (.slice (some ⟨go34,0,none⟩) x6_1.length co34)) (ok := (fun k_ => ((P0_ k_ ∨ P1_ k_) ∨ w.heap.size ≤ k_))) (va_ HO_0.out) hg (.inl rfl));replace HO_1 := Aside0.mk (Kd.V_afterv (v := (.slice (some ⟨go34,0,none⟩) x6_1.length co34)) (v1 := (.slice (some ⟨go34,0,none⟩) x6_1.length co34)) (ok := (fun k_ => ((P0_ k_ ∨ P1_ k_) ∨ w.heap.size ≤ k_))) (va_ HO_1.out) hg (.inl rfl));replace HO_6 := Aside0.mk (hp_);replace HB := Aside0.mk ((by rw [hw];exact below_set (HB.out) GB34.out : Below w.heap.size w w36));clear hg hw hp_))
                go_roundg k1
                case measure => have := HK1.out;omega
                case rel => exact ⟨(y192),(t191),(wrap64 (x29_1 + 1)),(by first | rfl | (simp;done) | (simp [*];done)),(by first | rfl | (simp;done) | (simp [*];done)),H',⟨by have := HK1.out;omega⟩,⟨by (with_reducible repeat (first | apply Kd.V_alloc | apply Kd.V_drewN | apply Kd.V_drew));exact HO_0.out⟩,⟨by (with_reducible repeat (first | apply Kd.V_alloc | apply Kd.V_drewN | apply Kd.V_drew));exact HO_1.out⟩,⟨by (with_reducible repeat (first | apply Kd.R_alloc | apply Kd.R_drewN | apply Kd.R_drew));exact HO_6.out⟩,⟨by repeat (first | (with_reducible first | exact HB.out | apply below_alloc | apply pw_below_drewN | apply below_drew1) | exact HB.out)⟩⟩
               ·rw [if_neg c33] at H
                exact absurd H (by simp)
              ·rw [if_neg c31] at H
               exact absurd H (by simp)
             ·rw [if_neg c30] at H
              exact absurd H (by simp)
            ·rw [if_neg c29] at H
             have c29b0 : decide (x29_1 < (y180.length : Int)) = false := decide_eq_false c29
             clear c29
             by_cases c37 : 0 ≤ x29_1
             ·rw [if_pos c37] at H
              have c37b0 : decide (0 ≤ x29_1) = true := decide_eq_true c37
              clear c37
              by_cases c38 : x29_1 < (y174.length : Int)
              ·rw [if_pos c38] at H
               have c38b0 : decide (x29_1 < (y174.length : Int)) = true := decide_eq_true c38
               clear c38
               replace H := Option.bind_eq_some_iff.mp H
               obtain ⟨⟨t194,t195⟩,A390,H⟩ := H
               replace H : (if x29_1 < (x6_1.length : Int) then (nat_Sub.l0 k1 y174 y180 (x6_1.set (x29_1 : Int).toNat t194) t195 (y174.length : Int) (wrap64 (x29_1 + 1))) else (none)) = some (r1,r2) := H
               have A39 := Aside0.mk A390
               clear A390
               by_cases c40 : x29_1 < (x6_1.length : Int)
               ·rw [if_pos c40] at H
                have c40b0 : decide (x29_1 < (x6_1.length : Int)) = true := decide_eq_true c40
                clear c40
                obtain ⟨y196,hy196⟩ : ∃ y_ : List Int,y_ = (x6_1.set (x29_1 : Int).toNat t194) := ⟨_,rfl⟩
                replace H : (nat_Sub.l0 k1 y174 y180 y196 t195 (y174.length : Int) (wrap64 (x29_1 + 1))) = some (r1,r2) := by first | (rw [hy196];with_reducible exact H) | (have H2_ := (Option.bind_some _ _).symm.trans H;rw [hy196];with_reducible exact H2_) | (have H2_ := (Option.bind_some _ _).symm.trans H;with_reducible exact H2_) | with_reducible exact H | (rw [hy196];exact H) | exact H
                have Ny196 := Aside0.mk hy196
                clear hy196
                have H' := Aside0.mk H
                clear H
                have p193 : 0 ≤ (x29_1 : Int) := od_
                have q193 : x29_1 < (y174.length : Int) := od_
                obtain ⟨ad193,e193,hx193_0⟩ := Kd.at_int (Kd.V_reads' HO_0.out).2.2 x29_1 p193 q193
                cases e193
                replace p193 := eq_true p193
                replace q193 := eq_true q193
                go_wp2_with (first | ((with_reducible refine gate_callee (f := 28) rfl ?_);refine goesL_ (some 49) rfl rfl Tryd.func28 (by kernel_rfl) rfl #[.int .u32 (rd y174 x29_1),.int .u32 0,.int .u32 x7_1] rfl am_ ?_;(with_reducible refine (bits_Sub32.calls (rd y174 x29_1) 0 x7_1 t194 t195 _ A39.out).mono ?_);rintro e w' ⟨rfl,⟨nd,rfl⟩⟩;refine ⟨_,rfl,?_⟩;(try (rw [drewN_self wr];generalize hq_ : World.drewN wr _ = wr;have n0_ : Aside0 (Kd.V (Kd.int .u32) 43 wr w.heap.size (fun k_ => ((P0_ k_ ∨ P1_ k_) ∨ w.heap.size ≤ k_) ∧ some k_ ≠ (v186 : Value).ownBlock) (.slice (some ad193) y174.length c0) y174) := ⟨by rw [← hq_];exact (va_ HO_0.out)⟩;have n1_ : Aside0 (Kd.V (Kd.int .u32) 43 wr w.heap.size (fun k_ => ((P0_ k_ ∨ P1_ k_) ∨ w.heap.size ≤ k_) ∧ some k_ ≠ (v186 : Value).ownBlock) (.slice A1 y180.length c1) y180) := ⟨by rw [← hq_];exact (va_ HO_1.out)⟩;have n2_ : Aside0 (Kd.R (Kd.int .u32) 43 wr w.heap.size (fun k_ => (w.heap.size ≤ k_)) v186 x6_1) := ⟨by rw [← hq_];exact (ra_ HO_6.out)⟩;have n3_ : Aside0 (Below w.heap.size w wr) := ⟨by rw [← hq_];exact bl_⟩;clear HO_0 HO_1 HO_6 HB hq_;have HO_0 := n0_;have HO_1 := n1_;have HO_6 := n2_;have HB := n3_;clear n0_ n1_ n2_ n3_));have p41 : 0 ≤ (x29_1 : Int) := od_;have q41 : (x29_1 : Int) < ((x6_1.length : Int) : Int) := od_;obtain ⟨go41,co41,eo41,gb41,gl41,cl41,HG41⟩ := Kd.R_form HO_6.out (by omega);(first | cases eo41 | (injection eo41 with ea_ en_ ec_;(first | subst ea_ | (injection ea_ with ea_;subst ea_));subst ec_;clear en_));have GB41 := Aside0.mk gb41;have GG41 := Aside0.mk HG41;clear gb41 gl41 HG41;obtain ⟨hx41_0,hf41_0⟩ := Kd.R_celln 0 HO_6.out (x29_1 : Int) p41 q41;replace p41 := eq_true p41;replace q41 := eq_true q41;obtain ⟨hy42_,hz42_⟩ := Kd.R_celln 0 HO_6.out (x29_1 : Int) od_ od_;have HP42 := Kd.R_putg HO_6.out (x29_1 : Int) t194) | ((with_reducible refine gate_store (t := 43) (p := 52) rfl ?_);refine store_event (t := 43) (p := 52) (v := ?vo_w43) (w1 := (wr.setCell ⟨go41,(x29_1 : Int).toNat,none⟩ (.int .u32 t194))) ?hg ?ho ?hn ?hr ?_;(case ho => rfl);(case hg => rfl);(case hn => rfl);(case hr => first | (go_simp;done) | (go_simp;rfl));intro w43 hw;have hg : wr.grownBy w43 (some go41) := (by rw [hw];exact HP42.2);have hp_ : Kd.R (Kd.int .u32) 43 w43 w.heap.size (fun k_ => (w.heap.size ≤ k_)) (.slice (some ⟨go41,0,none⟩) x6_1.length co41) y196 := (by rw [hw,Ny196.out];exact HP42.1);clear HP42;replace HO_0 := Aside0.mk (Kd.V_afterv (v := (.slice (some ⟨go41,0,none⟩) x6_1.length co41)) (v1 := (.slice (some ⟨go41,0,none⟩) x6_1.length co41)) (ok := (fun k_ => ((P0_ k_ ∨ P1_ k_) ∨ w.heap.size ≤ k_))) (va_ HO_0.out) hg (.inl rfl));replace HO_1 := Aside0.mk (Kd.V_afterv (v := (.slice (some ⟨go41,0,none⟩) x6_1.length co41)) (v1 := (.slice (some ⟨go41,0,none⟩) x6_1.length co41)) (ok := (fun k_ => ((P0_ k_ ∨ P1_ k_) ∨ w.heap.size ≤ k_))) (va_ HO_1.out) hg (.inl rfl));replace HO_6 := Aside0.mk (hp_);replace HB := Aside0.mk ((by rw [hw];exact below_set (HB.out) GB41.out : Below w.heap.size w w43));clear hg hw hp_))
                go_roundg k1
                case measure => have := HK1.out;omega
                case rel => exact ⟨(y196),(t195),(wrap64 (x29_1 + 1)),(by first | rfl | (simp;done) | (simp [*];done)),(by first | rfl | (simp;done) | (simp [*];done)),H',⟨by have := HK1.out;omega⟩,⟨by (with_reducible repeat (first | apply Kd.V_alloc | apply Kd.V_drewN | apply Kd.V_drew));exact HO_0.out⟩,⟨by (with_reducible repeat (first | apply Kd.V_alloc | apply Kd.V_drewN | apply Kd.V_drew));exact HO_1.out⟩,⟨by (with_reducible repeat (first | apply Kd.R_alloc | apply Kd.R_drewN | apply Kd.R_drew));exact HO_6.out⟩,⟨by repeat (first | (with_reducible first | exact HB.out | apply below_alloc | apply pw_below_drewN | apply below_drew1) | exact HB.out)⟩⟩
               ·rw [if_neg c40] at H
                exact absurd H (by simp)
              ·rw [if_neg c38] at H
               exact absurd H (by simp)
             ·rw [if_neg c37] at H
              exact absurd H (by simp)
           ·rw [if_neg c28] at H
            have c28b0 : decide (x29_1 < (y174.length : Int)) = false := decide_eq_false c28
            clear c28
            replace H := Option.bind_eq_some_iff.mp H
            obtain ⟨t197,A440,H⟩ := H
            replace H : (if 0 ≤ t197 then (if t197 ≤ (x6_1.length : Int) then (some ((x6_1.take (t197 : Int).toNat),0)) else (none)) else (none)) = some (r1,r2) := H
            have A44 := Aside0.mk A440
            clear A440
            by_cases c45 : 0 ≤ t197
            ·rw [if_pos c45] at H
             have c45b0 := eq_true c45
             have c45b1 : decide (0 ≤ t197) = true := decide_eq_true c45
             clear c45
             by_cases c46 : t197 ≤ (x6_1.length : Int)
             ·rw [if_pos c46] at H
              have c46b0 := eq_true c46
              have c46b1 : decide (t197 ≤ (x6_1.length : Int)) = true := decide_eq_true c46
              clear c46
              obtain ⟨y198,hy198⟩ : ∃ y_ : List Int,y_ = (x6_1.take (t197 : Int).toNat) := ⟨_,rfl⟩
              replace H : (some (y198,0)) = some (r1,r2) := by first | (rw [hy198];with_reducible exact H) | (have H2_ := (Option.bind_some _ _).symm.trans H;rw [hy198];with_reducible exact H2_) | (have H2_ := (Option.bind_some _ _).symm.trans H;with_reducible exact H2_) | with_reducible exact H | (rw [hy198];exact H) | exact H
              have Ny198 := Aside0.mk hy198
              clear hy198
              simp only [Option.some.injEq,Prod.mk.injEq] at H
              obtain ⟨rfl,rfl⟩ := H
              obtain ⟨Ao47,co47,eo47⟩ := Kd.R_slice HO_6.out
              subst eo47
              go_wp2_with (first | ((with_reducible refine gate_callee (f := 25) rfl ?_);refine goesL_ (some 55) rfl rfl Tryd.func25 (by kernel_rfl) rfl #[.slice Ao47 x6_1.length co47] rfl am_ ?_;(with_reducible refine (nat_cut_read.calls (l' := y198) (hl' := Ny198.out) k1 _ _ x6_1 t197 _ ?side1 ?side2 A44.out).mono ?_);(case side1 => exact ca_ (Kd.R_reads' HO_6.out).2.2);(case side2 => exact (Kd.R_reads' HO_6.out).2.1);rintro e w' ⟨rfl,⟨nd,rfl⟩⟩;refine ⟨_,rfl,?_⟩;have q48 : (t197 : Int) ≤ ((x6_1.length : Int) : Int) := od_;obtain ⟨i048,hi048,_,hsz48,_⟩ := info_parts info43;have hcut48 := cut_to (P := Tryd.prog) 24 43 .i64 Tryd.underlying24 hi048 Ao47 x6_1.length co47 t197 od_ q48 (Kd.R_reads' HO_6.out).2.1;have hr48 := Kd.R_take (m := (t197 : Int).toNat) HO_6.out (by have e_ := (Kd.R_reads' HO_6.out).1;omega);have hy48 : y198.length = (t197 : Int).toNat := (by have e_ := (Kd.R_reads' HO_6.out).1;rw [Ny198.out,List.length_take];omega);rw [← Ny198.out] at hr48;rw [← hy48] at hr48 hcut48;clear hy48 hi048 hsz48 HO_6;have HO200 := Aside0.mk hr48;clear hr48;replace q48 := eq_true q48))
              go_ret2
              exact ⟨_,by first | rfl | (simp [errW_none,errW_some] <;> rfl) | (simp [*,errW_none,errW_some] <;> rfl),by (with_reducible repeat (first | apply Kd.R_alloc | apply Kd.R_drewN | apply Kd.R_drew));exact HO200.out,by repeat (first | (with_reducible first | exact HB.out | apply below_alloc | apply pw_below_drewN | apply below_drew1) | exact HB.out)⟩
             ·rw [if_neg c46] at H
              exact absurd H (by simp)
            ·rw [if_neg c45] at H
             exact absurd H (by simp)
        ·rw [if_neg c20] at H
         exact absurd H (by simp)
       ·rw [if_neg c19] at H
        exact absurd H (by simp)
      ·rw [if_neg c18] at H
       exact absurd H (by simp)
     ·rw [if_neg c17] at H
      exact absurd H (by simp)
    ·rw [if_neg c15] at H
     exact absurd H (by simp)
   ·rw [if_neg c14] at H
    exact absurd H (by simp)

/-! ### nat_Mul: function 12 -/
mutual
def nat_Mul.l0 : Nat → List Int → List Int → List Int → Int → Int → Option (List Int × Int)
 | 0,_,_,_,_,_ => none
 | k + 1,x0,x1,x6,x26,x27 => if x27 < x26 then (nat_Mul.l1 k x0 x1 x6 x27 0 x26 x27 (x1.length : Int) 0) else ((nat_fits.f k x6).bind fun bt220 => (some (bt220.1,bt220.2)))
def nat_Mul.l1 : Nat → List Int → List Int → List Int → Int → Int → Int → Int → Int → Int → Option (List Int × Int)
 | 0,_,_,_,_,_,_,_,_,_ => none
 | k + 1,x0,x1,x6,x7,x8,x26,x27,x31,x32 => if x32 < x31 then (if 0 ≤ x7 then (if x7 < (x0.length : Int) then (if 0 ≤ x32 then (if x32 < (x1.length : Int) then (if 0 ≤ (wrap64 (x7 + x32)) then (if (wrap64 (x7 + x32)) < (x6.length : Int) then (nat_Mul.l1 k x0 x1 (x6.set ((wrap64 (x7 + x32)) : Int).toNat ((IntKind.u64.wrap ((IntKind.u64.wrap ((IntKind.u64.wrap ((IntKind.u64.wrap (rd x0 x7)) * (IntKind.u64.wrap (rd x1 x32)))) + (IntKind.u64.wrap (rd x6 (wrap64 (x7 + x32)))))) + x8)) % 4294967296)) x7 ((IntKind.u64.wrap ((IntKind.u64.wrap ((IntKind.u64.wrap ((IntKind.u64.wrap (rd x0 x7)) * (IntKind.u64.wrap (rd x1 x32)))) + (IntKind.u64.wrap (rd x6 (wrap64 (x7 + x32)))))) + x8)) / 4294967296) x26 x27 x31 (wrap64 (x32 + 1))) else (none)) else (none)) else (none)) else (none)) else (none)) else (none)) else (if 0 ≤ (wrap64 (x7 + (x1.length : Int))) then (if (wrap64 (x7 + (x1.length : Int))) < (x6.length : Int) then (nat_Mul.l0 k x0 x1 (x6.set ((wrap64 (x7 + (x1.length : Int))) : Int).toNat ((x8) % 4294967296)) x26 (wrap64 (x27 + 1))) else (none)) else (none))
end
def nat_Mul.f (k : Nat) (l0 : List Int) (l1 : List Int) : Option (List Int × Int) := (nat_over.f k (([l0,l1] : List (List Int)))).bind fun t204 => (if t204 = true then (some (([] : List Int),2)) else ((nat_right.f k l0).bind fun t205 => (if 0 ≤ t205 then (if t205 ≤ (l0.length : Int) then ((some (l0.take (t205 : Int).toNat : List Int)).bind fun y206 => ((nat_right.f k l1).bind fun t211 => (if 0 ≤ t211 then (if t211 ≤ (l1.length : Int) then ((some (l1.take (t211 : Int).toNat : List Int)).bind fun y212 => (if 0 ≤ (wrap64 ((y206.length : Int) + (y212.length : Int))) then (if (wrap64 ((y206.length : Int) + (y212.length : Int)) : Int).toNat ≤ 70368744177664 then (nat_Mul.l0 k y206 y212 (List.replicate (wrap64 ((y206.length : Int) + (y212.length : Int)) : Int).toNat 0) (y206.length : Int) 0) else (none)) else (none))) else (none)) else (none)))) else (none)) else (none))))
set_option maxHeartbeats 8000000 in
set_option maxRecDepth 100000 in
theorem nat_Mul.calls (k : Nat) (P0_ : Nat → Prop) (A0 : Option Addr) (c0 : Nat) (l0 : List Int) (P1_ : Nat → Prop) (A1 : Option Addr) (c1 : Nat) (l1 : List Int) (r1 : List Int) (r2 : Int) (w : World) (hs0 : Kd.V (Kd.int .u32) 43 w w.heap.size (fun k_ => P0_ k_) (.slice A0 l0.length c0) l0) (hs1 : Kd.V (Kd.int .u32) 43 w w.heap.size (fun k_ => P1_ k_) (.slice A1 l1.length c1) l1) (h : nat_Mul.f k l0 l1 = some (r1,r2)) :
  Calls Tryd.prog 12 #[.slice A0 l0.length c0,.slice A1 l1.length c1] w fun e w' => ∃ v0_ : Value,e = .returned (.tuple #[v0_,.int .i64 r2]) ∧ Kd.R (Kd.int .u32) 43 w' w.heap.size (fun k_ => (w.heap.size ≤ k_)) v0_ r1 ∧ Below w.heap.size w w' := by
 have HO0 := Aside0.mk (show Kd.V (Kd.int .u32) 43 w w.heap.size (fun k_ => ((P0_ k_ ∨ P1_ k_) ∨ w.heap.size ≤ k_)) (.slice A0 l0.length c0) l0 from Kd.V_mono hs0 (fun k_ hk => .inl (.inl hk)))
 have HO1 := Aside0.mk (show Kd.V (Kd.int .u32) 43 w w.heap.size (fun k_ => ((P0_ k_ ∨ P1_ k_) ∨ w.heap.size ≤ k_)) (.slice A1 l1.length c1) l1 from Kd.V_mono hs1 (fun k_ hk => .inl (.inr hk)))
 have HB := Aside0.mk (Below.refl w.heap.size w)
 have H : ((nat_over.f k (([l0,l1] : List (List Int)))).bind fun t204 => (if t204 = true then (some (([] : List Int),2)) else ((nat_right.f k l0).bind fun t205 => (if 0 ≤ t205 then (if t205 ≤ (l0.length : Int) then ((some (l0.take (t205 : Int).toNat : List Int)).bind fun y206 => ((nat_right.f k l1).bind fun t211 => (if 0 ≤ t211 then (if t211 ≤ (l1.length : Int) then ((some (l1.take (t211 : Int).toNat : List Int)).bind fun y212 => (if 0 ≤ (wrap64 ((y206.length : Int) + (y212.length : Int))) then (if (wrap64 ((y206.length : Int) + (y212.length : Int)) : Int).toNat ≤ 70368744177664 then (nat_Mul.l0 k y206 y212 (List.replicate (wrap64 ((y206.length : Int) + (y212.length : Int)) : Int).toNat 0) (y206.length : Int) 0) else (none)) else (none))) else (none)) else (none)))) else (none)) else (none))))) = some (r1,r2) := h
 clear h
 obtain ⟨y201,hy201⟩ : ∃ y_ : List (List Int),y_ = (([l0,l1] : List (List Int))) := ⟨_,rfl⟩
 replace H : ((nat_over.f k y201).bind fun t204 => (if t204 = true then (some (([] : List Int),2)) else ((nat_right.f k l0).bind fun t205 => (if 0 ≤ t205 then (if t205 ≤ (l0.length : Int) then ((some (l0.take (t205 : Int).toNat : List Int)).bind fun y206 => ((nat_right.f k l1).bind fun t211 => (if 0 ≤ t211 then (if t211 ≤ (l1.length : Int) then ((some (l1.take (t211 : Int).toNat : List Int)).bind fun y212 => (if 0 ≤ (wrap64 ((y206.length : Int) + (y212.length : Int))) then (if (wrap64 ((y206.length : Int) + (y212.length : Int)) : Int).toNat ≤ 70368744177664 then (nat_Mul.l0 k y206 y212 (List.replicate (wrap64 ((y206.length : Int) + (y212.length : Int)) : Int).toNat 0) (y206.length : Int) 0) else (none)) else (none))) else (none)) else (none)))) else (none)) else (none))))) = some (r1,r2) := by first | (rw [hy201];with_reducible exact H) | (have H2_ := (Option.bind_some _ _).symm.trans H;rw [hy201];with_reducible exact H2_) | (have H2_ := (Option.bind_some _ _).symm.trans H;with_reducible exact H2_) | with_reducible exact H | (rw [hy201];exact H) | exact H
 have Ny201 := Aside0.mk hy201
 clear hy201
 replace H := Option.bind_eq_some_iff.mp H
 obtain ⟨t204,A30,H⟩ := H
 replace H : (if t204 = true then (some (([] : List Int),2)) else ((nat_right.f k l0).bind fun t205 => (if 0 ≤ t205 then (if t205 ≤ (l0.length : Int) then ((some (l0.take (t205 : Int).toNat : List Int)).bind fun y206 => ((nat_right.f k l1).bind fun t211 => (if 0 ≤ t211 then (if t211 ≤ (l1.length : Int) then ((some (l1.take (t211 : Int).toNat : List Int)).bind fun y212 => (if 0 ≤ (wrap64 ((y206.length : Int) + (y212.length : Int))) then (if (wrap64 ((y206.length : Int) + (y212.length : Int)) : Int).toNat ≤ 70368744177664 then (nat_Mul.l0 k y206 y212 (List.replicate (wrap64 ((y206.length : Int) + (y212.length : Int)) : Int).toNat 0) (y206.length : Int) 0) else (none)) else (none))) else (none)) else (none)))) else (none)) else (none)))) = some (r1,r2) := H
 have A3 := Aside0.mk A30
 clear A30
 by_cases c4 : t204 = true
 ·subst c4
  have H1 : (some (([] : List Int),2)) = some (r1,r2) := by rw [if_pos rfl] at H;exact H
  clear H
  have H := H1
  clear H1
  simp only [Option.some.injEq,Prod.mk.injEq] at H
  obtain ⟨rfl,rfl⟩ := H
  go_enter Tryd.func12,Tryd.ntmps12
  go_wp2_with (first | ((with_reducible refine gate_dst (N := 13) rfl ?_);refine Kd.N_lit (Kd.slice 43 (Kd.int .u32)) _ 24 ?hg (N' := 13) ?hd (xs := ([l0,l1] : List (List Int))) (inner := [.slice A0 l0.length c0,.slice A1 l1.length c1]) (ok := (fun k_ => ((P0_ k_ ∨ P1_ k_) ∨ w.heap.size ≤ k_))) (okp := (fun k_ => ((P0_ k_ ∨ P1_ k_) ∨ w.heap.size ≤ k_))) ?hr ?hp (fun _ hk => hk) ((show ∀ k_,w.heap.size ≤ k_ → (fun k_ => ((P0_ k_ ∨ P1_ k_) ∨ w.heap.size ≤ k_)) k_ from fun k_ hk => (.inr (Nat.le_trans (below_size bl_) hk))) _ (Nat.le_refl _)) (Below.refl _ _) (Nat.le_refl _) (by simp) ?_;(case hd => rfl);(case hg => rfl);(case hr => first | (go_simp;done) | (go_simp;rfl));(case hp => exact (Reps.one (show Kd.FK (Kd.slice 43 (Kd.int .u32)) _ _ l0 [.slice A0 l0.length c0] from (Kd.FK_slice_mk (Kd.V_reads' (Kd.V_mono (ok' := (fun k_ => ((P0_ k_ ∨ P1_ k_) ∨ w.heap.size ≤ k_))) (HO0.out) (fun k_ hk => hk))).2.1 (Kd.V_F (Kd.V_mono (ok' := (fun k_ => ((P0_ k_ ∨ P1_ k_) ∨ w.heap.size ≤ k_))) (HO0.out) (fun k_ hk => hk))))) (Reps.one (show Kd.FK (Kd.slice 43 (Kd.int .u32)) _ _ l1 [.slice A1 l1.length c1] from (Kd.FK_slice_mk (Kd.V_reads' (Kd.V_mono (ok' := (fun k_ => ((P0_ k_ ∨ P1_ k_) ∨ w.heap.size ≤ k_))) (HO1.out) (fun k_ hk => hk))).2.1 (Kd.V_F (Kd.V_mono (ok' := (fun k_ => ((P0_ k_ ∨ P1_ k_) ∨ w.heap.size ≤ k_))) (HO1.out) (fun k_ hk => hk))))) (Reps.none _ _))));intro v202 w5 ho6 hb hg_ hnew_;clear hg_ hnew_;(first | rw [← Ny201.out] at ho6 | (simp only [Int.reduceToNat] at ho6;rw [← Ny201.out] at ho6));replace HO0 := Aside0.mk (Kd.V_elder' (va_ HO0.out) (Kd.N_base ho6) hb);replace HO1 := Aside0.mk (Kd.V_elder' (va_ HO1.out) (Kd.N_base ho6) hb);have HO203 := Aside0.mk (Kd.N_lower ho6 (below_size bl_));replace HB := Aside0.mk (below_step bl_ hb);clear hb ho6;obtain ⟨Ao7,co7,eo7⟩ := Kd.N_slice HO203.out;subst eo7) | (go_at_call 24;(with_reducible refine (nat_over.calls k _ _ y201 true _ ?side1 ?side2 A3.out).mono ?_);(case side1 => exact ca_ (Kd.N_reads' HO203.out).2.2);(case side2 => exact (Kd.N_reads' HO203.out).2.1);rintro e w' ⟨rfl,⟨nd,rfl⟩⟩;(try first | exact ⟨rfl,_,World.drewN_drewN _ _ _⟩ | exact ⟨rfl,_,Eq.trans (World.drewN_drewN _ _ _) (congrArg (World.drewN _) (Nat.add_assoc _ _ _))⟩)))
  repeat (go_quiet (first | ((with_reducible refine gate_dst (N := 13) rfl ?_);refine Kd.N_lit (Kd.slice 43 (Kd.int .u32)) _ 24 ?hg (N' := 13) ?hd (xs := ([l0,l1] : List (List Int))) (inner := [.slice A0 l0.length c0,.slice A1 l1.length c1]) (ok := (fun k_ => ((P0_ k_ ∨ P1_ k_) ∨ w.heap.size ≤ k_))) (okp := (fun k_ => ((P0_ k_ ∨ P1_ k_) ∨ w.heap.size ≤ k_))) ?hr ?hp (fun _ hk => hk) ((show ∀ k_,w.heap.size ≤ k_ → (fun k_ => ((P0_ k_ ∨ P1_ k_) ∨ w.heap.size ≤ k_)) k_ from fun k_ hk => (.inr (Nat.le_trans (below_size bl_) hk))) _ (Nat.le_refl _)) (Below.refl _ _) (Nat.le_refl _) (by simp) ?_;(case hd => rfl);(case hg => rfl);(case hr => first | (go_simp;done) | (go_simp;rfl));(case hp => exact (Reps.one (show Kd.FK (Kd.slice 43 (Kd.int .u32)) _ _ l0 [.slice A0 l0.length c0] from (Kd.FK_slice_mk (Kd.V_reads' (Kd.V_mono (ok' := (fun k_ => ((P0_ k_ ∨ P1_ k_) ∨ w.heap.size ≤ k_))) (HO0.out) (fun k_ hk => hk))).2.1 (Kd.V_F (Kd.V_mono (ok' := (fun k_ => ((P0_ k_ ∨ P1_ k_) ∨ w.heap.size ≤ k_))) (HO0.out) (fun k_ hk => hk))))) (Reps.one (show Kd.FK (Kd.slice 43 (Kd.int .u32)) _ _ l1 [.slice A1 l1.length c1] from (Kd.FK_slice_mk (Kd.V_reads' (Kd.V_mono (ok' := (fun k_ => ((P0_ k_ ∨ P1_ k_) ∨ w.heap.size ≤ k_))) (HO1.out) (fun k_ hk => hk))).2.1 (Kd.V_F (Kd.V_mono (ok' := (fun k_ => ((P0_ k_ ∨ P1_ k_) ∨ w.heap.size ≤ k_))) (HO1.out) (fun k_ hk => hk))))) (Reps.none _ _))));intro v202 w5 ho6 hb hg_ hnew_;clear hg_ hnew_;(first | rw [← Ny201.out] at ho6 | (simp only [Int.reduceToNat] at ho6;rw [← Ny201.out] at ho6));replace HO0 := Aside0.mk (Kd.V_elder' (va_ HO0.out) (Kd.N_base ho6) hb);replace HO1 := Aside0.mk (Kd.V_elder' (va_ HO1.out) (Kd.N_base ho6) hb);have HO203 := Aside0.mk (Kd.N_lower ho6 (below_size bl_));replace HB := Aside0.mk (below_step bl_ hb);clear hb ho6;obtain ⟨Ao7,co7,eo7⟩ := Kd.N_slice HO203.out;subst eo7) | (go_at_call 24;(with_reducible refine (nat_over.calls k _ _ y201 true _ ?side1 ?side2 A3.out).mono ?_);(case side1 => exact ca_ (Kd.N_reads' HO203.out).2.2);(case side2 => exact (Kd.N_reads' HO203.out).2.1);rintro e w' ⟨rfl,⟨nd,rfl⟩⟩;(try first | exact ⟨rfl,_,World.drewN_drewN _ _ _⟩ | exact ⟨rfl,_,Eq.trans (World.drewN_drewN _ _ _) (congrArg (World.drewN _) (Nat.add_assoc _ _ _))⟩)));try go_wp2_with (first | ((with_reducible refine gate_dst (N := 13) rfl ?_);refine Kd.N_lit (Kd.slice 43 (Kd.int .u32)) _ 24 ?hg (N' := 13) ?hd (xs := ([l0,l1] : List (List Int))) (inner := [.slice A0 l0.length c0,.slice A1 l1.length c1]) (ok := (fun k_ => ((P0_ k_ ∨ P1_ k_) ∨ w.heap.size ≤ k_))) (okp := (fun k_ => ((P0_ k_ ∨ P1_ k_) ∨ w.heap.size ≤ k_))) ?hr ?hp (fun _ hk => hk) ((show ∀ k_,w.heap.size ≤ k_ → (fun k_ => ((P0_ k_ ∨ P1_ k_) ∨ w.heap.size ≤ k_)) k_ from fun k_ hk => (.inr (Nat.le_trans (below_size bl_) hk))) _ (Nat.le_refl _)) (Below.refl _ _) (Nat.le_refl _) (by simp) ?_;(case hd => rfl);(case hg => rfl);(case hr => first | (go_simp;done) | (go_simp;rfl));(case hp => exact (Reps.one (show Kd.FK (Kd.slice 43 (Kd.int .u32)) _ _ l0 [.slice A0 l0.length c0] from (Kd.FK_slice_mk (Kd.V_reads' (Kd.V_mono (ok' := (fun k_ => ((P0_ k_ ∨ P1_ k_) ∨ w.heap.size ≤ k_))) (HO0.out) (fun k_ hk => hk))).2.1 (Kd.V_F (Kd.V_mono (ok' := (fun k_ => ((P0_ k_ ∨ P1_ k_) ∨ w.heap.size ≤ k_))) (HO0.out) (fun k_ hk => hk))))) (Reps.one (show Kd.FK (Kd.slice 43 (Kd.int .u32)) _ _ l1 [.slice A1 l1.length c1] from (Kd.FK_slice_mk (Kd.V_reads' (Kd.V_mono (ok' := (fun k_ => ((P0_ k_ ∨ P1_ k_) ∨ w.heap.size ≤ k_))) (HO1.out) (fun k_ hk => hk))).2.1 (Kd.V_F (Kd.V_mono (ok' := (fun k_ => ((P0_ k_ ∨ P1_ k_) ∨ w.heap.size ≤ k_))) (HO1.out) (fun k_ hk => hk))))) (Reps.none _ _))));intro v202 w5 ho6 hb hg_ hnew_;clear hg_ hnew_;(first | rw [← Ny201.out] at ho6 | (simp only [Int.reduceToNat] at ho6;rw [← Ny201.out] at ho6));replace HO0 := Aside0.mk (Kd.V_elder' (va_ HO0.out) (Kd.N_base ho6) hb);replace HO1 := Aside0.mk (Kd.V_elder' (va_ HO1.out) (Kd.N_base ho6) hb);have HO203 := Aside0.mk (Kd.N_lower ho6 (below_size bl_));replace HB := Aside0.mk (below_step bl_ hb);clear hb ho6;obtain ⟨Ao7,co7,eo7⟩ := Kd.N_slice HO203.out;subst eo7) | (go_at_call 24;(with_reducible refine (nat_over.calls k _ _ y201 true _ ?side1 ?side2 A3.out).mono ?_);(case side1 => exact ca_ (Kd.N_reads' HO203.out).2.2);(case side2 => exact (Kd.N_reads' HO203.out).2.1);rintro e w' ⟨rfl,⟨nd,rfl⟩⟩;(try first | exact ⟨rfl,_,World.drewN_drewN _ _ _⟩ | exact ⟨rfl,_,Eq.trans (World.drewN_drewN _ _ _) (congrArg (World.drewN _) (Nat.add_assoc _ _ _))⟩))))
  go_ret2
  exact ⟨_,by first | rfl | (simp [errW_none,errW_some] <;> rfl) | (simp [*,errW_none,errW_some] <;> rfl),by first | exact Kd.R_nil _ _ _ _ _ | exact Kd.N_nil _ _ _ _ _ | exact Kd.V_nil _ _ _ _ _ | exact Kd.Q_nil _ _ _ _ _ | exact Kd.S_nil _ _ _ _ _,by repeat (first | (with_reducible first | exact HB.out | apply below_alloc | apply pw_below_drewN | apply below_drew1) | exact HB.out)⟩
 ·replace c4 := Bool.eq_false_iff.mpr c4
  subst c4
  have H1 : ((nat_right.f k l0).bind fun t205 => (if 0 ≤ t205 then (if t205 ≤ (l0.length : Int) then ((some (l0.take (t205 : Int).toNat : List Int)).bind fun y206 => ((nat_right.f k l1).bind fun t211 => (if 0 ≤ t211 then (if t211 ≤ (l1.length : Int) then ((some (l1.take (t211 : Int).toNat : List Int)).bind fun y212 => (if 0 ≤ (wrap64 ((y206.length : Int) + (y212.length : Int))) then (if (wrap64 ((y206.length : Int) + (y212.length : Int)) : Int).toNat ≤ 70368744177664 then (nat_Mul.l0 k y206 y212 (List.replicate (wrap64 ((y206.length : Int) + (y212.length : Int)) : Int).toNat 0) (y206.length : Int) 0) else (none)) else (none))) else (none)) else (none)))) else (none)) else (none))) = some (r1,r2) := by rw [if_neg (show ¬ (false = true) by decide)] at H;exact H
  clear H
  have H := H1
  clear H1
  replace H := Option.bind_eq_some_iff.mp H
  obtain ⟨t205,A80,H⟩ := H
  replace H : (if 0 ≤ t205 then (if t205 ≤ (l0.length : Int) then ((some (l0.take (t205 : Int).toNat : List Int)).bind fun y206 => ((nat_right.f k l1).bind fun t211 => (if 0 ≤ t211 then (if t211 ≤ (l1.length : Int) then ((some (l1.take (t211 : Int).toNat : List Int)).bind fun y212 => (if 0 ≤ (wrap64 ((y206.length : Int) + (y212.length : Int))) then (if (wrap64 ((y206.length : Int) + (y212.length : Int)) : Int).toNat ≤ 70368744177664 then (nat_Mul.l0 k y206 y212 (List.replicate (wrap64 ((y206.length : Int) + (y212.length : Int)) : Int).toNat 0) (y206.length : Int) 0) else (none)) else (none))) else (none)) else (none)))) else (none)) else (none)) = some (r1,r2) := H
  have A8 := Aside0.mk A80
  clear A80
  by_cases c9 : 0 ≤ t205
  ·rw [if_pos c9] at H
   have c9b0 := eq_true c9
   have c9b1 : decide (0 ≤ t205) = true := decide_eq_true c9
   clear c9
   by_cases c10 : t205 ≤ (l0.length : Int)
   ·rw [if_pos c10] at H
    have c10b0 := eq_true c10
    have c10b1 : decide (t205 ≤ (l0.length : Int)) = true := decide_eq_true c10
    clear c10
    obtain ⟨y206,hy206⟩ : ∃ y_ : List Int,y_ = (l0.take (t205 : Int).toNat) := ⟨_,rfl⟩
    replace H : ((nat_right.f k l1).bind fun t211 => (if 0 ≤ t211 then (if t211 ≤ (l1.length : Int) then ((some (l1.take (t211 : Int).toNat : List Int)).bind fun y212 => (if 0 ≤ (wrap64 ((y206.length : Int) + (y212.length : Int))) then (if (wrap64 ((y206.length : Int) + (y212.length : Int)) : Int).toNat ≤ 70368744177664 then (nat_Mul.l0 k y206 y212 (List.replicate (wrap64 ((y206.length : Int) + (y212.length : Int)) : Int).toNat 0) (y206.length : Int) 0) else (none)) else (none))) else (none)) else (none))) = some (r1,r2) := by first | (rw [hy206];with_reducible exact H) | (have H2_ := (Option.bind_some _ _).symm.trans H;rw [hy206];with_reducible exact H2_) | (have H2_ := (Option.bind_some _ _).symm.trans H;with_reducible exact H2_) | with_reducible exact H | (rw [hy206];exact H) | exact H
    have Ny206 := Aside0.mk hy206
    clear hy206
    replace H := Option.bind_eq_some_iff.mp H
    obtain ⟨t211,A110,H⟩ := H
    replace H : (if 0 ≤ t211 then (if t211 ≤ (l1.length : Int) then ((some (l1.take (t211 : Int).toNat : List Int)).bind fun y212 => (if 0 ≤ (wrap64 ((y206.length : Int) + (y212.length : Int))) then (if (wrap64 ((y206.length : Int) + (y212.length : Int)) : Int).toNat ≤ 70368744177664 then (nat_Mul.l0 k y206 y212 (List.replicate (wrap64 ((y206.length : Int) + (y212.length : Int)) : Int).toNat 0) (y206.length : Int) 0) else (none)) else (none))) else (none)) else (none)) = some (r1,r2) := H
    have A11 := Aside0.mk A110
    clear A110
    by_cases c12 : 0 ≤ t211
    ·rw [if_pos c12] at H
     have c12b0 := eq_true c12
     have c12b1 : decide (0 ≤ t211) = true := decide_eq_true c12
     clear c12
     by_cases c13 : t211 ≤ (l1.length : Int)
     ·rw [if_pos c13] at H
      have c13b0 := eq_true c13
      have c13b1 : decide (t211 ≤ (l1.length : Int)) = true := decide_eq_true c13
      clear c13
      obtain ⟨y212,hy212⟩ : ∃ y_ : List Int,y_ = (l1.take (t211 : Int).toNat) := ⟨_,rfl⟩
      replace H : (if 0 ≤ (wrap64 ((y206.length : Int) + (y212.length : Int))) then (if (wrap64 ((y206.length : Int) + (y212.length : Int)) : Int).toNat ≤ 70368744177664 then (nat_Mul.l0 k y206 y212 (List.replicate (wrap64 ((y206.length : Int) + (y212.length : Int)) : Int).toNat 0) (y206.length : Int) 0) else (none)) else (none)) = some (r1,r2) := by first | (rw [hy212];with_reducible exact H) | (have H2_ := (Option.bind_some _ _).symm.trans H;rw [hy212];with_reducible exact H2_) | (have H2_ := (Option.bind_some _ _).symm.trans H;with_reducible exact H2_) | with_reducible exact H | (rw [hy212];exact H) | exact H
      have Ny212 := Aside0.mk hy212
      clear hy212
      obtain ⟨ji14,hji14⟩ : ∃ j_ : Int,(wrap64 ((y206.length : Int) + (y212.length : Int))) = j_ := ⟨_,rfl⟩
      replace H : (if 0 ≤ (ji14) then (if (ji14 : Int).toNat ≤ 70368744177664 then (nat_Mul.l0 k y206 y212 (List.replicate (ji14 : Int).toNat 0) (y206.length : Int) 0) else (none)) else (none)) = some (r1,r2) := by first | (rw [hji14] at H;exact H) | (simp only [hji14] at H ⊢;exact H)
      (try rw [hji14] at A3)
      (try rw [hji14] at A8)
      (try rw [hji14] at A11)
      have hji14w : (IntKind.i64.wrap ((y206.length : Int) + (y212.length : Int))) = ji14 := (i64_w _).trans hji14
      by_cases c15 : 0 ≤ (ji14)
      ·rw [if_pos c15] at H
       have c15b0 := eq_true c15
       have c15b1 : decide (0 ≤ (ji14)) = true := decide_eq_true c15
       clear c15
       by_cases c16 : (ji14 : Int).toNat ≤ 70368744177664
       ·rw [if_pos c16] at H
        have c16b0 := eq_true c16
        have c16b1 : decide ((ji14 : Int).toNat ≤ 70368744177664) = true := decide_eq_true c16
        clear c16
        obtain ⟨y217,hy217⟩ : ∃ y_ : List Int,y_ = (List.replicate (ji14 : Int).toNat 0) := ⟨_,rfl⟩
        replace H : (nat_Mul.l0 k y206 y212 y217 (y206.length : Int) 0) = some (r1,r2) := by first | (rw [hy217];with_reducible exact H) | (have H2_ := (Option.bind_some _ _).symm.trans H;rw [hy217];with_reducible exact H2_) | (have H2_ := (Option.bind_some _ _).symm.trans H;with_reducible exact H2_) | with_reducible exact H | (rw [hy217];exact H) | exact H
        have Ny217 := Aside0.mk hy217
        clear hy217
        have H' := Aside0.mk H
        clear H
        go_enter Tryd.func12,Tryd.ntmps12
        go_wp2_with (first | ((with_reducible refine gate_dst (N := 13) rfl ?_);refine Kd.N_lit (Kd.slice 43 (Kd.int .u32)) _ 24 ?hg (N' := 13) ?hd (xs := ([l0,l1] : List (List Int))) (inner := [.slice A0 l0.length c0,.slice A1 l1.length c1]) (ok := (fun k_ => ((P0_ k_ ∨ P1_ k_) ∨ w.heap.size ≤ k_))) (okp := (fun k_ => ((P0_ k_ ∨ P1_ k_) ∨ w.heap.size ≤ k_))) ?hr ?hp (fun _ hk => hk) ((show ∀ k_,w.heap.size ≤ k_ → (fun k_ => ((P0_ k_ ∨ P1_ k_) ∨ w.heap.size ≤ k_)) k_ from fun k_ hk => (.inr (Nat.le_trans (below_size bl_) hk))) _ (Nat.le_refl _)) (Below.refl _ _) (Nat.le_refl _) (by simp) ?_;(case hd => rfl);(case hg => rfl);(case hr => first | (go_simp;done) | (go_simp;rfl));(case hp => exact (Reps.one (show Kd.FK (Kd.slice 43 (Kd.int .u32)) _ _ l0 [.slice A0 l0.length c0] from (Kd.FK_slice_mk (Kd.V_reads' (Kd.V_mono (ok' := (fun k_ => ((P0_ k_ ∨ P1_ k_) ∨ w.heap.size ≤ k_))) (HO0.out) (fun k_ hk => hk))).2.1 (Kd.V_F (Kd.V_mono (ok' := (fun k_ => ((P0_ k_ ∨ P1_ k_) ∨ w.heap.size ≤ k_))) (HO0.out) (fun k_ hk => hk))))) (Reps.one (show Kd.FK (Kd.slice 43 (Kd.int .u32)) _ _ l1 [.slice A1 l1.length c1] from (Kd.FK_slice_mk (Kd.V_reads' (Kd.V_mono (ok' := (fun k_ => ((P0_ k_ ∨ P1_ k_) ∨ w.heap.size ≤ k_))) (HO1.out) (fun k_ hk => hk))).2.1 (Kd.V_F (Kd.V_mono (ok' := (fun k_ => ((P0_ k_ ∨ P1_ k_) ∨ w.heap.size ≤ k_))) (HO1.out) (fun k_ hk => hk))))) (Reps.none _ _))));intro v202 w17 ho18 hb hg_ hnew_;clear hg_ hnew_;(first | rw [← Ny201.out] at ho18 | (simp only [Int.reduceToNat] at ho18;rw [← Ny201.out] at ho18));replace HO0 := Aside0.mk (Kd.V_elder' (va_ HO0.out) (Kd.N_base ho18) hb);replace HO1 := Aside0.mk (Kd.V_elder' (va_ HO1.out) (Kd.N_base ho18) hb);have HO203 := Aside0.mk (Kd.N_lower ho18 (below_size bl_));replace HB := Aside0.mk (below_step bl_ hb);clear hb ho18;obtain ⟨Ao19,co19,eo19⟩ := Kd.N_slice HO203.out;subst eo19) | (go_at_call 24;(with_reducible refine (nat_over.calls k _ _ y201 false _ ?side1 ?side2 A3.out).mono ?_);(case side1 => exact ca_ (Kd.N_reads' HO203.out).2.2);(case side2 => exact (Kd.N_reads' HO203.out).2.1);rintro e w' ⟨rfl,⟨nd,rfl⟩⟩;(try first | exact ⟨rfl,_,World.drewN_drewN _ _ _⟩ | exact ⟨rfl,_,Eq.trans (World.drewN_drewN _ _ _) (congrArg (World.drewN _) (Nat.add_assoc _ _ _))⟩)) | (go_at_call 25;(with_reducible refine (nat_cut_read.calls (l' := y206) (hl' := Ny206.out) k _ _ l0 t205 _ ?side1 ?side2 A8.out).mono ?_);(case side1 => exact ca_ (Kd.V_reads' HO0.out).2.2);(case side2 => exact (Kd.V_reads' HO0.out).2.1);rintro e w' ⟨rfl,⟨nd,rfl⟩⟩;(try first | exact ⟨rfl,_,World.drewN_drewN _ _ _⟩ | exact ⟨rfl,_,Eq.trans (World.drewN_drewN _ _ _) (congrArg (World.drewN _) (Nat.add_assoc _ _ _))⟩);have q20 : (t205 : Int) ≤ ((l0.length : Int) : Int) := od_;obtain ⟨i020,hi020,_,hsz20,_⟩ := info_parts info43;have hroom20 : l0.length ≤ c0 := (Kd.V_reads' HO0.out).2.1;have hC20 : Kd.F (Kd.int .u32) _ _ A0 l0.length l0 := (Kd.V_at (base := w.heap.size) HO0.out).2.2;have hcut20 := cut_to (P := Tryd.prog) 24 43 .i64 Tryd.underlying24 hi020 A0 l0.length c0 t205 od_ q20 hroom20;have hr20 := Kd.F_take (m := (t205 : Int).toNat) hC20 (by omega);have hy20 : y206.length = (t205 : Int).toNat := (by rw [Ny206.out,List.length_take];omega);rw [← Ny206.out] at hr20;rw [← hy20] at hcut20;have HO210 := Aside0.mk (show Kd.V (Kd.int .u32) 43 _ w.heap.size _ (.slice A0 y206.length c0) y206 from Kd.V_mk (by omega) hr20);have HC210 := Aside0.mk (show y206.length ≤ c0 from by omega);clear hr20 hC20 hroom20 hi020 hsz20;have KY20 := Aside0.mk hy20;clear hy20;replace q20 := eq_true q20) | (go_at_call 25;(with_reducible refine (nat_cut_read.calls (l' := y212) (hl' := Ny212.out) k _ _ l1 t211 _ ?side1 ?side2 A11.out).mono ?_);(case side1 => exact ca_ (Kd.V_reads' HO1.out).2.2);(case side2 => exact (Kd.V_reads' HO1.out).2.1);rintro e w' ⟨rfl,⟨nd,rfl⟩⟩;(try first | exact ⟨rfl,_,World.drewN_drewN _ _ _⟩ | exact ⟨rfl,_,Eq.trans (World.drewN_drewN _ _ _) (congrArg (World.drewN _) (Nat.add_assoc _ _ _))⟩);have q21 : (t211 : Int) ≤ ((l1.length : Int) : Int) := od_;obtain ⟨i021,hi021,_,hsz21,_⟩ := info_parts info43;have hroom21 : l1.length ≤ c1 := (Kd.V_reads' HO1.out).2.1;have hC21 : Kd.F (Kd.int .u32) _ _ A1 l1.length l1 := (Kd.V_at (base := w.heap.size) HO1.out).2.2;have hcut21 := cut_to (P := Tryd.prog) 24 43 .i64 Tryd.underlying24 hi021 A1 l1.length c1 t211 od_ q21 hroom21;have hr21 := Kd.F_take (m := (t211 : Int).toNat) hC21 (by omega);have hy21 : y212.length = (t211 : Int).toNat := (by rw [Ny212.out,List.length_take];omega);rw [← Ny212.out] at hr21;rw [← hy21] at hcut21;have HO216 := Aside0.mk (show Kd.V (Kd.int .u32) 43 _ w.heap.size _ (.slice A1 y212.length c1) y212 from Kd.V_mk (by omega) hr21);have HC216 := Aside0.mk (show y212.length ≤ c1 from by omega);clear hr21 hC21 hroom21 hi021 hsz21;have KY21 := Aside0.mk hy21;clear hy21;replace q21 := eq_true q21) | ((with_reducible refine gate_dst (N := 24) rfl ?_);refine Kd.R_make (Kd.int .u32) _ 43 rfl (N := 24) rfl 24 _ _ rfl ji14 rfl rfl Tryd.underlying24 (.int .u32 0) 4 info43 rfl (by decide) (by omega) 0 (ok := fun _ => True) (okp := fun _ => True) rfl (fun _ hk => hk) trivial od_ (Nat.le_trans (Nat.mul_le_mul_right _ (od_ : ji14.toNat ≤ 70368744177664)) (by omega)) (Below.refl _ _) (Nat.le_refl _) ?_;intro v218 w22 ho23 hb hg_ hnew_;clear hg_ hnew_;(first | rw [← Ny217.out] at ho23 | (simp only [Int.reduceToNat] at ho23;rw [← Ny217.out] at ho23));replace HO0 := Aside0.mk (Kd.V_elder' (va_ HO0.out) (Kd.R_base ho23) hb);replace HO1 := Aside0.mk (Kd.V_elder' (va_ HO1.out) (Kd.R_base ho23) hb);replace HO203 := Aside0.mk (Kd.N_elder' (by (with_reducible repeat (first | apply Kd.N_alloc | apply Kd.N_drewN | apply Kd.N_drew));exact HO203.out) (Kd.R_base ho23) hb);replace HO210 := Aside0.mk (Kd.V_elder' (va_ HO210.out) (Kd.R_base ho23) hb);replace HO216 := Aside0.mk (Kd.V_elder' (va_ HO216.out) (Kd.R_base ho23) hb);have HO219 := Aside0.mk (Kd.R_lower (Kd.R_newM (M := fun k_ => (w.heap.size ≤ k_)) ho23 (below_size bl_) (fun k_ h_ => h_)) (below_size bl_));replace HB := Aside0.mk (below_step bl_ hb);clear hb ho23))
        repeat (go_quiet (first | ((with_reducible refine gate_dst (N := 13) rfl ?_);refine Kd.N_lit (Kd.slice 43 (Kd.int .u32)) _ 24 ?hg (N' := 13) ?hd (xs := ([l0,l1] : List (List Int))) (inner := [.slice A0 l0.length c0,.slice A1 l1.length c1]) (ok := (fun k_ => ((P0_ k_ ∨ P1_ k_) ∨ w.heap.size ≤ k_))) (okp := (fun k_ => ((P0_ k_ ∨ P1_ k_) ∨ w.heap.size ≤ k_))) ?hr ?hp (fun _ hk => hk) ((show ∀ k_,w.heap.size ≤ k_ → (fun k_ => ((P0_ k_ ∨ P1_ k_) ∨ w.heap.size ≤ k_)) k_ from fun k_ hk => (.inr (Nat.le_trans (below_size bl_) hk))) _ (Nat.le_refl _)) (Below.refl _ _) (Nat.le_refl _) (by simp) ?_;(case hd => rfl);(case hg => rfl);(case hr => first | (go_simp;done) | (go_simp;rfl));(case hp => exact (Reps.one (show Kd.FK (Kd.slice 43 (Kd.int .u32)) _ _ l0 [.slice A0 l0.length c0] from (Kd.FK_slice_mk (Kd.V_reads' (Kd.V_mono (ok' := (fun k_ => ((P0_ k_ ∨ P1_ k_) ∨ w.heap.size ≤ k_))) (HO0.out) (fun k_ hk => hk))).2.1 (Kd.V_F (Kd.V_mono (ok' := (fun k_ => ((P0_ k_ ∨ P1_ k_) ∨ w.heap.size ≤ k_))) (HO0.out) (fun k_ hk => hk))))) (Reps.one (show Kd.FK (Kd.slice 43 (Kd.int .u32)) _ _ l1 [.slice A1 l1.length c1] from (Kd.FK_slice_mk (Kd.V_reads' (Kd.V_mono (ok' := (fun k_ => ((P0_ k_ ∨ P1_ k_) ∨ w.heap.size ≤ k_))) (HO1.out) (fun k_ hk => hk))).2.1 (Kd.V_F (Kd.V_mono (ok' := (fun k_ => ((P0_ k_ ∨ P1_ k_) ∨ w.heap.size ≤ k_))) (HO1.out) (fun k_ hk => hk))))) (Reps.none _ _))));intro v202 w17 ho18 hb hg_ hnew_;clear hg_ hnew_;(first | rw [← Ny201.out] at ho18 | (simp only [Int.reduceToNat] at ho18;rw [← Ny201.out] at ho18));replace HO0 := Aside0.mk (Kd.V_elder' (va_ HO0.out) (Kd.N_base ho18) hb);replace HO1 := Aside0.mk (Kd.V_elder' (va_ HO1.out) (Kd.N_base ho18) hb);have HO203 := Aside0.mk (Kd.N_lower ho18 (below_size bl_));replace HB := Aside0.mk (below_step bl_ hb);clear hb ho18;obtain ⟨Ao19,co19,eo19⟩ := Kd.N_slice HO203.out;subst eo19) | (go_at_call 24;(with_reducible refine (nat_over.calls k _ _ y201 false _ ?side1 ?side2 A3.out).mono ?_);(case side1 => exact ca_ (Kd.N_reads' HO203.out).2.2);(case side2 => exact (Kd.N_reads' HO203.out).2.1);rintro e w' ⟨rfl,⟨nd,rfl⟩⟩;(try first | exact ⟨rfl,_,World.drewN_drewN _ _ _⟩ | exact ⟨rfl,_,Eq.trans (World.drewN_drewN _ _ _) (congrArg (World.drewN _) (Nat.add_assoc _ _ _))⟩)) | (go_at_call 25;(with_reducible refine (nat_cut_read.calls (l' := y206) (hl' := Ny206.out) k _ _ l0 t205 _ ?side1 ?side2 A8.out).mono ?_);(case side1 => exact ca_ (Kd.V_reads' HO0.out).2.2);(case side2 => exact (Kd.V_reads' HO0.out).2.1);rintro e w' ⟨rfl,⟨nd,rfl⟩⟩;(try first | exact ⟨rfl,_,World.drewN_drewN _ _ _⟩ | exact ⟨rfl,_,Eq.trans (World.drewN_drewN _ _ _) (congrArg (World.drewN _) (Nat.add_assoc _ _ _))⟩);have q20 : (t205 : Int) ≤ ((l0.length : Int) : Int) := od_;obtain ⟨i020,hi020,_,hsz20,_⟩ := info_parts info43;have hroom20 : l0.length ≤ c0 := (Kd.V_reads' HO0.out).2.1;have hC20 : Kd.F (Kd.int .u32) _ _ A0 l0.length l0 := (Kd.V_at (base := w.heap.size) HO0.out).2.2;have hcut20 := cut_to (P := Tryd.prog) 24 43 .i64 Tryd.underlying24 hi020 A0 l0.length c0 t205 od_ q20 hroom20;have hr20 := Kd.F_take (m := (t205 : Int).toNat) hC20 (by omega);have hy20 : y206.length = (t205 : Int).toNat := (by rw [Ny206.out,List.length_take];omega);rw [← Ny206.out] at hr20;rw [← hy20] at hcut20;have HO210 := Aside0.mk (show Kd.V (Kd.int .u32) 43 _ w.heap.size _ (.slice A0 y206.length c0) y206 from Kd.V_mk (by omega) hr20);have HC210 := Aside0.mk (show y206.length ≤ c0 from by omega);clear hr20 hC20 hroom20 hi020 hsz20;have KY20 := Aside0.mk hy20;clear hy20;replace q20 := eq_true q20) | (go_at_call 25;(with_reducible refine (nat_cut_read.calls (l' := y212) (hl' := Ny212.out) k _ _ l1 t211 _ ?side1 ?side2 A11.out).mono ?_);(case side1 => exact ca_ (Kd.V_reads' HO1.out).2.2);(case side2 => exact (Kd.V_reads' HO1.out).2.1);rintro e w' ⟨rfl,⟨nd,rfl⟩⟩;(try first | exact ⟨rfl,_,World.drewN_drewN _ _ _⟩ | exact ⟨rfl,_,Eq.trans (World.drewN_drewN _ _ _) (congrArg (World.drewN _) (Nat.add_assoc _ _ _))⟩);have q21 : (t211 : Int) ≤ ((l1.length : Int) : Int) := od_;obtain ⟨i021,hi021,_,hsz21,_⟩ := info_parts info43;have hroom21 : l1.length ≤ c1 := (Kd.V_reads' HO1.out).2.1;have hC21 : Kd.F (Kd.int .u32) _ _ A1 l1.length l1 := (Kd.V_at (base := w.heap.size) HO1.out).2.2;have hcut21 := cut_to (P := Tryd.prog) 24 43 .i64 Tryd.underlying24 hi021 A1 l1.length c1 t211 od_ q21 hroom21;have hr21 := Kd.F_take (m := (t211 : Int).toNat) hC21 (by omega);have hy21 : y212.length = (t211 : Int).toNat := (by rw [Ny212.out,List.length_take];omega);rw [← Ny212.out] at hr21;rw [← hy21] at hcut21;have HO216 := Aside0.mk (show Kd.V (Kd.int .u32) 43 _ w.heap.size _ (.slice A1 y212.length c1) y212 from Kd.V_mk (by omega) hr21);have HC216 := Aside0.mk (show y212.length ≤ c1 from by omega);clear hr21 hC21 hroom21 hi021 hsz21;have KY21 := Aside0.mk hy21;clear hy21;replace q21 := eq_true q21) | ((with_reducible refine gate_dst (N := 24) rfl ?_);refine Kd.R_make (Kd.int .u32) _ 43 rfl (N := 24) rfl 24 _ _ rfl ji14 rfl rfl Tryd.underlying24 (.int .u32 0) 4 info43 rfl (by decide) (by omega) 0 (ok := fun _ => True) (okp := fun _ => True) rfl (fun _ hk => hk) trivial od_ (Nat.le_trans (Nat.mul_le_mul_right _ (od_ : ji14.toNat ≤ 70368744177664)) (by omega)) (Below.refl _ _) (Nat.le_refl _) ?_;intro v218 w22 ho23 hb hg_ hnew_;clear hg_ hnew_;(first | rw [← Ny217.out] at ho23 | (simp only [Int.reduceToNat] at ho23;rw [← Ny217.out] at ho23));replace HO0 := Aside0.mk (Kd.V_elder' (va_ HO0.out) (Kd.R_base ho23) hb);replace HO1 := Aside0.mk (Kd.V_elder' (va_ HO1.out) (Kd.R_base ho23) hb);replace HO203 := Aside0.mk (Kd.N_elder' (by (with_reducible repeat (first | apply Kd.N_alloc | apply Kd.N_drewN | apply Kd.N_drew));exact HO203.out) (Kd.R_base ho23) hb);replace HO210 := Aside0.mk (Kd.V_elder' (va_ HO210.out) (Kd.R_base ho23) hb);replace HO216 := Aside0.mk (Kd.V_elder' (va_ HO216.out) (Kd.R_base ho23) hb);have HO219 := Aside0.mk (Kd.R_lower (Kd.R_newM (M := fun k_ => (w.heap.size ≤ k_)) ho23 (below_size bl_) (fun k_ h_ => h_)) (below_size bl_));replace HB := Aside0.mk (below_step bl_ hb);clear hb ho23));try go_wp2_with (first | ((with_reducible refine gate_dst (N := 13) rfl ?_);refine Kd.N_lit (Kd.slice 43 (Kd.int .u32)) _ 24 ?hg (N' := 13) ?hd (xs := ([l0,l1] : List (List Int))) (inner := [.slice A0 l0.length c0,.slice A1 l1.length c1]) (ok := (fun k_ => ((P0_ k_ ∨ P1_ k_) ∨ w.heap.size ≤ k_))) (okp := (fun k_ => ((P0_ k_ ∨ P1_ k_) ∨ w.heap.size ≤ k_))) ?hr ?hp (fun _ hk => hk) ((show ∀ k_,w.heap.size ≤ k_ → (fun k_ => ((P0_ k_ ∨ P1_ k_) ∨ w.heap.size ≤ k_)) k_ from fun k_ hk => (.inr (Nat.le_trans (below_size bl_) hk))) _ (Nat.le_refl _)) (Below.refl _ _) (Nat.le_refl _) (by simp) ?_;(case hd => rfl);(case hg => rfl);(case hr => first | (go_simp;done) | (go_simp;rfl));(case hp => exact (Reps.one (show Kd.FK (Kd.slice 43 (Kd.int .u32)) _ _ l0 [.slice A0 l0.length c0] from (Kd.FK_slice_mk (Kd.V_reads' (Kd.V_mono (ok' := (fun k_ => ((P0_ k_ ∨ P1_ k_) ∨ w.heap.size ≤ k_))) (HO0.out) (fun k_ hk => hk))).2.1 (Kd.V_F (Kd.V_mono (ok' := (fun k_ => ((P0_ k_ ∨ P1_ k_) ∨ w.heap.size ≤ k_))) (HO0.out) (fun k_ hk => hk))))) (Reps.one (show Kd.FK (Kd.slice 43 (Kd.int .u32)) _ _ l1 [.slice A1 l1.length c1] from (Kd.FK_slice_mk (Kd.V_reads' (Kd.V_mono (ok' := (fun k_ => ((P0_ k_ ∨ P1_ k_) ∨ w.heap.size ≤ k_))) (HO1.out) (fun k_ hk => hk))).2.1 (Kd.V_F (Kd.V_mono (ok' := (fun k_ => ((P0_ k_ ∨ P1_ k_) ∨ w.heap.size ≤ k_))) (HO1.out) (fun k_ hk => hk))))) (Reps.none _ _))));intro v202 w17 ho18 hb hg_ hnew_;clear hg_ hnew_;(first | rw [← Ny201.out] at ho18 | (simp only [Int.reduceToNat] at ho18;rw [← Ny201.out] at ho18));replace HO0 := Aside0.mk (Kd.V_elder' (va_ HO0.out) (Kd.N_base ho18) hb);replace HO1 := Aside0.mk (Kd.V_elder' (va_ HO1.out) (Kd.N_base ho18) hb);have HO203 := Aside0.mk (Kd.N_lower ho18 (below_size bl_));replace HB := Aside0.mk (below_step bl_ hb);clear hb ho18;obtain ⟨Ao19,co19,eo19⟩ := Kd.N_slice HO203.out;subst eo19) | (go_at_call 24;(with_reducible refine (nat_over.calls k _ _ y201 false _ ?side1 ?side2 A3.out).mono ?_);(case side1 => exact ca_ (Kd.N_reads' HO203.out).2.2);(case side2 => exact (Kd.N_reads' HO203.out).2.1);rintro e w' ⟨rfl,⟨nd,rfl⟩⟩;(try first | exact ⟨rfl,_,World.drewN_drewN _ _ _⟩ | exact ⟨rfl,_,Eq.trans (World.drewN_drewN _ _ _) (congrArg (World.drewN _) (Nat.add_assoc _ _ _))⟩)) | (go_at_call 25;(with_reducible refine (nat_cut_read.calls (l' := y206) (hl' := Ny206.out) k _ _ l0 t205 _ ?side1 ?side2 A8.out).mono ?_);(case side1 => exact ca_ (Kd.V_reads' HO0.out).2.2);(case side2 => exact (Kd.V_reads' HO0.out).2.1);rintro e w' ⟨rfl,⟨nd,rfl⟩⟩;(try first | exact ⟨rfl,_,World.drewN_drewN _ _ _⟩ | exact ⟨rfl,_,Eq.trans (World.drewN_drewN _ _ _) (congrArg (World.drewN _) (Nat.add_assoc _ _ _))⟩);have q20 : (t205 : Int) ≤ ((l0.length : Int) : Int) := od_;obtain ⟨i020,hi020,_,hsz20,_⟩ := info_parts info43;have hroom20 : l0.length ≤ c0 := (Kd.V_reads' HO0.out).2.1;have hC20 : Kd.F (Kd.int .u32) _ _ A0 l0.length l0 := (Kd.V_at (base := w.heap.size) HO0.out).2.2;have hcut20 := cut_to (P := Tryd.prog) 24 43 .i64 Tryd.underlying24 hi020 A0 l0.length c0 t205 od_ q20 hroom20;have hr20 := Kd.F_take (m := (t205 : Int).toNat) hC20 (by omega);have hy20 : y206.length = (t205 : Int).toNat := (by rw [Ny206.out,List.length_take];omega);rw [← Ny206.out] at hr20;rw [← hy20] at hcut20;have HO210 := Aside0.mk (show Kd.V (Kd.int .u32) 43 _ w.heap.size _ (.slice A0 y206.length c0) y206 from Kd.V_mk (by omega) hr20);have HC210 := Aside0.mk (show y206.length ≤ c0 from by omega);clear hr20 hC20 hroom20 hi020 hsz20;have KY20 := Aside0.mk hy20;clear hy20;replace q20 := eq_true q20) | (go_at_call 25;(with_reducible refine (nat_cut_read.calls (l' := y212) (hl' := Ny212.out) k _ _ l1 t211 _ ?side1 ?side2 A11.out).mono ?_);(case side1 => exact ca_ (Kd.V_reads' HO1.out).2.2);(case side2 => exact (Kd.V_reads' HO1.out).2.1);rintro e w' ⟨rfl,⟨nd,rfl⟩⟩;(try first | exact ⟨rfl,_,World.drewN_drewN _ _ _⟩ | exact ⟨rfl,_,Eq.trans (World.drewN_drewN _ _ _) (congrArg (World.drewN _) (Nat.add_assoc _ _ _))⟩);have q21 : (t211 : Int) ≤ ((l1.length : Int) : Int) := od_;obtain ⟨i021,hi021,_,hsz21,_⟩ := info_parts info43;have hroom21 : l1.length ≤ c1 := (Kd.V_reads' HO1.out).2.1;have hC21 : Kd.F (Kd.int .u32) _ _ A1 l1.length l1 := (Kd.V_at (base := w.heap.size) HO1.out).2.2;have hcut21 := cut_to (P := Tryd.prog) 24 43 .i64 Tryd.underlying24 hi021 A1 l1.length c1 t211 od_ q21 hroom21;have hr21 := Kd.F_take (m := (t211 : Int).toNat) hC21 (by omega);have hy21 : y212.length = (t211 : Int).toNat := (by rw [Ny212.out,List.length_take];omega);rw [← Ny212.out] at hr21;rw [← hy21] at hcut21;have HO216 := Aside0.mk (show Kd.V (Kd.int .u32) 43 _ w.heap.size _ (.slice A1 y212.length c1) y212 from Kd.V_mk (by omega) hr21);have HC216 := Aside0.mk (show y212.length ≤ c1 from by omega);clear hr21 hC21 hroom21 hi021 hsz21;have KY21 := Aside0.mk hy21;clear hy21;replace q21 := eq_true q21) | ((with_reducible refine gate_dst (N := 24) rfl ?_);refine Kd.R_make (Kd.int .u32) _ 43 rfl (N := 24) rfl 24 _ _ rfl ji14 rfl rfl Tryd.underlying24 (.int .u32 0) 4 info43 rfl (by decide) (by omega) 0 (ok := fun _ => True) (okp := fun _ => True) rfl (fun _ hk => hk) trivial od_ (Nat.le_trans (Nat.mul_le_mul_right _ (od_ : ji14.toNat ≤ 70368744177664)) (by omega)) (Below.refl _ _) (Nat.le_refl _) ?_;intro v218 w22 ho23 hb hg_ hnew_;clear hg_ hnew_;(first | rw [← Ny217.out] at ho23 | (simp only [Int.reduceToNat] at ho23;rw [← Ny217.out] at ho23));replace HO0 := Aside0.mk (Kd.V_elder' (va_ HO0.out) (Kd.R_base ho23) hb);replace HO1 := Aside0.mk (Kd.V_elder' (va_ HO1.out) (Kd.R_base ho23) hb);replace HO203 := Aside0.mk (Kd.N_elder' (by (with_reducible repeat (first | apply Kd.N_alloc | apply Kd.N_drewN | apply Kd.N_drew));exact HO203.out) (Kd.R_base ho23) hb);replace HO210 := Aside0.mk (Kd.V_elder' (va_ HO210.out) (Kd.R_base ho23) hb);replace HO216 := Aside0.mk (Kd.V_elder' (va_ HO216.out) (Kd.R_base ho23) hb);have HO219 := Aside0.mk (Kd.R_lower (Kd.R_newM (M := fun k_ => (w.heap.size ≤ k_)) ho23 (below_size bl_) (fun k_ h_ => h_)) (below_size bl_));replace HB := Aside0.mk (below_step bl_ hb);clear hb ho23)))
        go_loopg [27] k (fun kq v27 w' => ∃ (x6_1 : List Int) (x27_1 : Int),v27 = .int .i64 x27_1 ∧ Aside0 (nat_Mul.l0 kq y206 y212 x6_1 (y206.length : Int) x27_1 = some (r1,r2)) ∧ Aside0 (kq ≤ k) ∧ Aside0 (Kd.V (Kd.int .u32) 43 w' w.heap.size (fun k_ => ((P0_ k_ ∨ P1_ k_) ∨ w.heap.size ≤ k_) ∧ some k_ ≠ (v218 : Value).ownBlock) (.slice A0 y206.length c0) y206) ∧ Aside0 (Kd.V (Kd.int .u32) 43 w' w.heap.size (fun k_ => ((P0_ k_ ∨ P1_ k_) ∨ w.heap.size ≤ k_) ∧ some k_ ≠ (v218 : Value).ownBlock) (.slice A1 y212.length c1) y212) ∧ Aside0 (Kd.R (Kd.int .u32) 43 w' w.heap.size (fun k_ => (w.heap.size ≤ k_)) v218 x6_1) ∧ Aside0 (Below w.heap.size w w'))
        case atStart => exact ⟨(y217),(0),(by first | rfl | (simp;done) | (simp [*];done)),H',⟨Nat.le_refl _⟩,⟨by (with_reducible repeat (first | apply Kd.V_alloc | apply Kd.V_drewN | apply Kd.V_drew));exact Kd.V_mono HO210.out (fun _ hk => ⟨hk.1.1,hk.2⟩)⟩,⟨by (with_reducible repeat (first | apply Kd.V_alloc | apply Kd.V_drewN | apply Kd.V_drew));exact Kd.V_mono HO216.out (fun _ hk => ⟨hk.1.1,hk.2⟩)⟩,⟨by (with_reducible repeat (first | apply Kd.R_alloc | apply Kd.R_drewN | apply Kd.R_drew));exact Kd.R_mono HO219.out (fun _ hk => hk.1)⟩,⟨by repeat (first | (with_reducible first | exact HB.out | apply below_alloc | apply pw_below_drewN | apply below_drew1) | exact HB.out)⟩⟩
        case round =>
         clear H'
         try clear c1
         try clear p2
         try clear q2
         try clear c4
         try clear p6
         try clear c9
         try clear c9b0
         try clear c9b1
         try clear c10
         try clear c10b0
         try clear c10b1
         try clear c12
         try clear c12b0
         try clear c12b1
         try clear c13
         try clear c13b0
         try clear c13b1
         try clear c15
         try clear c15b0
         try clear c15b1
         try clear c16
         try clear c16b0
         try clear c16b1
         try clear q20
         try clear q21
         try clear q20
         try clear q21
         obtain ⟨x6_1,x27_1,rfl,HA,HK1,HO_0,HO_1,HO_6,HB⟩ := hrel
         cases gk with
         | zero => exact absurd HA.out (by simp [nat_Mul.l0])
         | succ k1 =>
          have H := HA.out
          clear HA
          simp only [nat_Mul.l0] at H
          by_cases c24 : x27_1 < (y206.length : Int)
          ·rw [if_pos c24] at H
           have c24b0 : decide (x27_1 < (y206.length : Int)) = true := decide_eq_true c24
           clear c24
           have H' := Aside0.mk H
           clear H
           go_wp2
           repeat (go_quiet (fail);try go_wp2)
           go_loopg [8,32] k1 (fun kq v8 v32 w' => ∃ (x6_2 : List Int) (x8_2 : Int) (x32_2 : Int),v8 = .int .u64 x8_2 ∧ v32 = .int .i64 x32_2 ∧ Aside0 (nat_Mul.l1 kq y206 y212 x6_2 x27_1 x8_2 (y206.length : Int) x27_1 (y212.length : Int) x32_2 = some (r1,r2)) ∧ Aside0 (kq ≤ k1) ∧ Aside0 (Kd.V (Kd.int .u32) 43 w' w.heap.size (fun k_ => ((P0_ k_ ∨ P1_ k_) ∨ w.heap.size ≤ k_) ∧ some k_ ≠ (v218 : Value).ownBlock) (.slice A0 y206.length c0) y206) ∧ Aside0 (Kd.V (Kd.int .u32) 43 w' w.heap.size (fun k_ => ((P0_ k_ ∨ P1_ k_) ∨ w.heap.size ≤ k_) ∧ some k_ ≠ (v218 : Value).ownBlock) (.slice A1 y212.length c1) y212) ∧ Aside0 (Kd.R (Kd.int .u32) 43 w' w.heap.size (fun k_ => (w.heap.size ≤ k_)) v218 x6_2) ∧ Aside0 (Below w.heap.size w w'))
           case atStart => exact ⟨(x6_1),(0),(0),(by first | rfl | (simp;done) | (simp [*];done)),(by first | rfl | (simp;done) | (simp [*];done)),H',⟨Nat.le_refl _⟩,⟨by (with_reducible repeat (first | apply Kd.V_alloc | apply Kd.V_drewN | apply Kd.V_drew));exact HO_0.out⟩,⟨by (with_reducible repeat (first | apply Kd.V_alloc | apply Kd.V_drewN | apply Kd.V_drew));exact HO_1.out⟩,⟨by (with_reducible repeat (first | apply Kd.R_alloc | apply Kd.R_drewN | apply Kd.R_drew));exact HO_6.out⟩,⟨by repeat (first | (with_reducible first | exact HB.out | apply below_alloc | apply pw_below_drewN | apply below_drew1) | exact HB.out)⟩⟩
           case round =>
            clear H'
            try clear c1
            try clear c2
            try clear p2
            try clear q2
            try clear c4
            try clear p6
            try clear c9
            try clear c9b0
            try clear c9b1
            try clear c10
            try clear c10b0
            try clear c10b1
            try clear c12
            try clear c12b0
            try clear c12b1
            try clear c13
            try clear c13b0
            try clear c13b1
            try clear c15
            try clear c15b0
            try clear c15b1
            try clear c16
            try clear c16b0
            try clear c16b1
            try clear q20
            try clear q21
            try clear c24
            try clear c24b0
            try clear p2
            try clear p6
            try clear q2
            try clear q20
            try clear q21
            obtain ⟨x6_2,x8_2,x32_2,rfl,rfl,HA,HK2,HO_0,HO_1,HO_6,HB⟩ := hrel
            cases gk with
            | zero => exact absurd HA.out (by simp [nat_Mul.l1])
            | succ k2 =>
             have H := HA.out
             clear HA
             simp only [nat_Mul.l1] at H
             by_cases c25 : x32_2 < (y212.length : Int)
             ·rw [if_pos c25] at H
              have c25b0 : decide (x32_2 < (y212.length : Int)) = true := decide_eq_true c25
              clear c25
              by_cases c26 : 0 ≤ x27_1
              ·rw [if_pos c26] at H
               have c26b0 : decide (0 ≤ x27_1) = true := decide_eq_true c26
               clear c26
               by_cases c27 : x27_1 < (y206.length : Int)
               ·rw [if_pos c27] at H
                have c27b0 : decide (x27_1 < (y206.length : Int)) = true := decide_eq_true c27
                clear c27
                by_cases c28 : 0 ≤ x32_2
                ·rw [if_pos c28] at H
                 have c28b0 : decide (0 ≤ x32_2) = true := decide_eq_true c28
                 clear c28
                 by_cases c29 : x32_2 < (y212.length : Int)
                 ·rw [if_pos c29] at H
                  have c29b0 : decide (x32_2 < (y212.length : Int)) = true := decide_eq_true c29
                  clear c29
                  obtain ⟨ji30,hji30⟩ : ∃ j_ : Int,(wrap64 (x27_1 + x32_2)) = j_ := ⟨_,rfl⟩
                  replace H : (if 0 ≤ (ji30) then (if (ji30) < (x6_2.length : Int) then (nat_Mul.l1 k2 y206 y212 (x6_2.set ((ji30) : Int).toNat ((IntKind.u64.wrap ((IntKind.u64.wrap ((IntKind.u64.wrap ((IntKind.u64.wrap (rd y206 x27_1)) * (IntKind.u64.wrap (rd y212 x32_2)))) + (IntKind.u64.wrap (rd x6_2 (ji30))))) + x8_2)) % 4294967296)) x27_1 ((IntKind.u64.wrap ((IntKind.u64.wrap ((IntKind.u64.wrap ((IntKind.u64.wrap (rd y206 x27_1)) * (IntKind.u64.wrap (rd y212 x32_2)))) + (IntKind.u64.wrap (rd x6_2 (ji30))))) + x8_2)) / 4294967296) (y206.length : Int) x27_1 (y212.length : Int) (wrap64 (x32_2 + 1))) else (none)) else (none)) = some (r1,r2) := by first | (rw [hji30] at H;exact H) | (simp only [hji30] at H ⊢;exact H)
                  have hji30w : (IntKind.i64.wrap (x27_1 + x32_2)) = ji30 := (i64_w _).trans hji30
                  by_cases c31 : 0 ≤ (ji30)
                  ·rw [if_pos c31] at H
                   have c31b0 : decide (0 ≤ (ji30)) = true := decide_eq_true c31
                   clear c31
                   by_cases c32 : (ji30) < (x6_2.length : Int)
                   ·rw [if_pos c32] at H
                    have c32b0 : decide ((ji30) < (x6_2.length : Int)) = true := decide_eq_true c32
                    clear c32
                    obtain ⟨y227,hy227⟩ : ∃ y_ : List Int,y_ = (x6_2.set ((ji30) : Int).toNat ((IntKind.u64.wrap ((IntKind.u64.wrap ((IntKind.u64.wrap ((IntKind.u64.wrap (rd y206 x27_1)) * (IntKind.u64.wrap (rd y212 x32_2)))) + (IntKind.u64.wrap (rd x6_2 (ji30))))) + x8_2)) % 4294967296)) := ⟨_,rfl⟩
                    replace H : (nat_Mul.l1 k2 y206 y212 y227 x27_1 ((IntKind.u64.wrap ((IntKind.u64.wrap ((IntKind.u64.wrap ((IntKind.u64.wrap (rd y206 x27_1)) * (IntKind.u64.wrap (rd y212 x32_2)))) + (IntKind.u64.wrap (rd x6_2 (ji30))))) + x8_2)) / 4294967296) (y206.length : Int) x27_1 (y212.length : Int) (wrap64 (x32_2 + 1))) = some (r1,r2) := by first | (rw [hy227];with_reducible exact H) | (have H2_ := (Option.bind_some _ _).symm.trans H;rw [hy227];with_reducible exact H2_) | (have H2_ := (Option.bind_some _ _).symm.trans H;with_reducible exact H2_) | with_reducible exact H | (rw [hy227];exact H) | exact H
                    have Ny227 := Aside0.mk hy227
                    clear hy227
                    have H' := Aside0.mk H
                    clear H
                    have p224 : 0 ≤ (x27_1 : Int) := od_
                    have q224 : x27_1 < (y206.length : Int) := od_
                    obtain ⟨ad224,e224,hx224_0⟩ := Kd.at_int (Kd.V_reads' HO_0.out).2.2 x27_1 p224 q224
                    cases e224
                    replace p224 := eq_true p224
                    replace q224 := eq_true q224
                    have p225 : 0 ≤ (x32_2 : Int) := od_
                    have q225 : x32_2 < (y212.length : Int) := od_
                    obtain ⟨ad225,e225,hx225_0⟩ := Kd.at_int (Kd.V_reads' HO_1.out).2.2 x32_2 p225 q225
                    cases e225
                    replace p225 := eq_true p225
                    replace q225 := eq_true q225
                    obtain ⟨Ao34,co34,eo34⟩ := Kd.R_slice HO_6.out
                    subst eo34
                    have p226 : 0 ≤ ((ji30) : Int) := od_
                    have q226 : (ji30) < (x6_2.length : Int) := od_
                    obtain ⟨ad226,e226,hx226_0⟩ := Kd.at_int (Kd.R_reads' HO_6.out).2.2 (ji30) p226 q226
                    cases e226
                    replace p226 := eq_true p226
                    replace q226 := eq_true q226
                    have p33 : 0 ≤ ((ji30) : Int) := od_
                    have q33 : ((ji30) : Int) < ((x6_2.length : Int) : Int) := od_
                    obtain ⟨go33,co33,eo33,gb33,gl33,cl33,HG33⟩ := Kd.R_form HO_6.out (by omega)
                    (first | cases eo33 | (injection eo33 with ea_ en_ ec_;(first | subst ea_ | (injection ea_ with ea_;subst ea_));subst ec_;clear en_))
                    have GB33 := Aside0.mk gb33
                    have GG33 := Aside0.mk HG33
                    clear gb33 gl33 HG33
                    (first | simp only [add_plain] at hx226_0 | skip)
                    obtain ⟨hx33_0,hf33_0⟩ := Kd.R_celln 0 HO_6.out ((ji30) : Int) p33 q33
                    replace p33 := eq_true p33
                    replace q33 := eq_true q33
                    have HP35 := Kd.R_putg HO_6.out ((ji30) : Int) ((IntKind.u64.wrap ((IntKind.u64.wrap ((IntKind.u64.wrap ((IntKind.u64.wrap (rd y206 x27_1)) * (IntKind.u64.wrap (rd y212 x32_2)))) + (IntKind.u64.wrap (rd x6_2 (ji30))))) + x8_2)) % 4294967296)
                    go_wp2_with (first | ((with_reducible refine gate_store (t := 43) (p := 64) rfl ?_);(try (rw [drewN_self wr];generalize hq_ : World.drewN wr _ = wr;have n0_ := Aside0.mk (V_hq hq_ HO_0.out);have n1_ := Aside0.mk (V_hq hq_ HO_1.out);have n2_ := Aside0.mk (Kd.R_at hq_ HO_6.out);have n3_ := Aside0.mk (below_at hq_ HB.out);clear hq_ HO_0 HO_1 HO_6 HB;have HO_0 := n0_;have HO_1 := n1_;have HO_6 := n2_;have HB := n3_;clear n0_ n1_ n2_ n3_;(try (obtain ⟨hx33_0,hf33_0⟩ := Kd.R_celln 0 HO_6.out ((ji30) : Int) (of_eq_true p33) (of_eq_true q33)));(try (have HP35 := Kd.R_putg HO_6.out ((ji30) : Int) ((IntKind.u64.wrap ((IntKind.u64.wrap ((IntKind.u64.wrap ((IntKind.u64.wrap (rd y206 x27_1)) * (IntKind.u64.wrap (rd y212 x32_2)))) + (IntKind.u64.wrap (rd x6_2 (ji30))))) + x8_2)) % 4294967296)))));refine store_event (t := 43) (p := 64) (v := ?vo_w36) (w1 := (wr.setCell ⟨go33,((ji30) : Int).toNat,none⟩ (.int .u32 ((IntKind.u64.wrap ((IntKind.u64.wrap ((IntKind.u64.wrap ((IntKind.u64.wrap (rd y206 x27_1)) * (IntKind.u64.wrap (rd y212 x32_2)))) + (IntKind.u64.wrap (rd x6_2 (ji30))))) + x8_2)) % 4294967296)))) ?hg ?ho ?hn ?hr ?_;(case ho => rfl);(case hg => rfl);(case hn => rfl);(case hr => first | (go_simp;done) | (go_simp;rfl));intro w36 hw;have hg : wr.grownBy w36 (some go33) := (by rw [hw];exact HP35.2);have hp_ : Kd.R (Kd.int .u32) 43 w36 w.heap.size (fun k_ => (w.heap.size ≤ k_)) (.slice (some ⟨go33,0,none⟩) x6_2.length co34) y227 := (by rw [hw,Ny227.out];exact HP35.1);clear HP35;replace HO_0 := Aside0.mk (Kd.V_afterv (v := (.slice (some ⟨go33,0,none⟩) x6_2.length co34)) (v1 := (.slice (some ⟨go33,0,none⟩) x6_2.length co34)) (ok := (fun k_ => ((P0_ k_ ∨ P1_ k_) ∨ w.heap.size ≤ k_))) (va_ HO_0.out) hg (.inl rfl));replace HO_1 := Aside0.mk (Kd.V_afterv (v := (.slice (some ⟨go33,0,none⟩) x6_2.length co34)) (v1 := (.slice (some ⟨go33,0,none⟩) x6_2.length co34)) (ok := (fun k_ => ((P0_ k_ ∨ P1_ k_) ∨ w.heap.size ≤ k_))) (va_ HO_1.out) hg (.inl rfl));replace HO_6 := Aside0.mk (hp_);replace HB := Aside0.mk ((by rw [hw];exact below_set (HB.out) GB33.out : Below w.heap.size w w36));clear hg hw hp_))
                    repeat (go_quiet (first | ((with_reducible refine gate_store (t := 43) (p := 64) rfl ?_);(try (rw [drewN_self wr];generalize hq_ : World.drewN wr _ = wr;have n0_ := Aside0.mk (V_hq hq_ HO_0.out);have n1_ := Aside0.mk (V_hq hq_ HO_1.out);have n2_ := Aside0.mk (Kd.R_at hq_ HO_6.out);have n3_ := Aside0.mk (below_at hq_ HB.out);clear hq_ HO_0 HO_1 HO_6 HB;have HO_0 := n0_;have HO_1 := n1_;have HO_6 := n2_;have HB := n3_;clear n0_ n1_ n2_ n3_;(try (obtain ⟨hx33_0,hf33_0⟩ := Kd.R_celln 0 HO_6.out ((ji30) : Int) (of_eq_true p33) (of_eq_true q33)));(try (have HP35 := Kd.R_putg HO_6.out ((ji30) : Int) ((IntKind.u64.wrap ((IntKind.u64.wrap ((IntKind.u64.wrap ((IntKind.u64.wrap (rd y206 x27_1)) * (IntKind.u64.wrap (rd y212 x32_2)))) + (IntKind.u64.wrap (rd x6_2 (ji30))))) + x8_2)) % 4294967296)))));refine store_event (t := 43) (p := 64) (v := ?vo_w36) (w1 := (wr.setCell ⟨go33,((ji30) : Int).toNat,none⟩ (.int .u32 ((IntKind.u64.wrap ((IntKind.u64.wrap ((IntKind.u64.wrap ((IntKind.u64.wrap (rd y206 x27_1)) * (IntKind.u64.wrap (rd y212 x32_2)))) + (IntKind.u64.wrap (rd x6_2 (ji30))))) + x8_2)) % 4294967296)))) ?hg ?ho ?hn ?hr ?_;(case ho => rfl);(case hg => rfl);(case hn => rfl);(case hr => first | (go_simp;done) | (go_simp;rfl));intro w36 hw;have hg : wr.grownBy w36 (some go33) := (by rw [hw];exact HP35.2);have hp_ : Kd.R (Kd.int .u32) 43 w36 w.heap.size (fun k_ => (w.heap.size ≤ k_)) (.slice (some ⟨go33,0,none⟩) x6_2.length co34) y227 := (by rw [hw,Ny227.out];exact HP35.1);clear HP35;replace HO_0 := Aside0.mk (Kd.V_afterv (v := (.slice (some ⟨go33,0,none⟩) x6_2.length co34)) (v1 := (.slice (some ⟨go33,0,none⟩) x6_2.length co34)) (ok := (fun k_ => ((P0_ k_ ∨ P1_ k_) ∨ w.heap.size ≤ k_))) (va_ HO_0.out) hg (.inl rfl));replace HO_1 := Aside0.mk (Kd.V_afterv (v := (.slice (some ⟨go33,0,none⟩) x6_2.length co34)) (v1 := (.slice (some ⟨go33,0,none⟩) x6_2.length co34)) (ok := (fun k_ => ((P0_ k_ ∨ P1_ k_) ∨ w.heap.size ≤ k_))) (va_ HO_1.out) hg (.inl rfl));replace HO_6 := Aside0.mk (hp_);replace HB := Aside0.mk ((by rw [hw];exact below_set (HB.out) GB33.out : Below w.heap.size w w36));clear hg hw hp_));try go_wp2_with (first | ((with_reducible refine gate_store (t := 43) (p := 64) rfl ?_);(try (rw [drewN_self wr];generalize hq_ : World.drewN wr _ = wr;have n0_ := Aside0.mk (V_hq hq_ HO_0.out);have n1_ := Aside0.mk (V_hq hq_ HO_1.out);have n2_ := Aside0.mk (Kd.R_at hq_ HO_6.out);have n3_ := Aside0.mk (below_at hq_ HB.out);clear hq_ HO_0 HO_1 HO_6 HB;have HO_0 := n0_;have HO_1 := n1_;have HO_6 := n2_;have HB := n3_;clear n0_ n1_ n2_ n3_;(try (obtain ⟨hx33_0,hf33_0⟩ := Kd.R_celln 0 HO_6.out ((ji30) : Int) (of_eq_true p33) (of_eq_true q33)));(try (have HP35 := Kd.R_putg HO_6.out ((ji30) : Int) ((IntKind.u64.wrap ((IntKind.u64.wrap ((IntKind.u64.wrap ((IntKind.u64.wrap (rd y206 x27_1)) * (IntKind.u64.wrap (rd y212 x32_2)))) + (IntKind.u64.wrap (rd x6_2 (ji30))))) + x8_2)) % 4294967296)))));refine store_event (t := 43) (p := 64) (v := ?vo_w36) (w1 := (wr.setCell ⟨go33,((ji30) : Int).toNat,none⟩ (.int .u32 ((IntKind.u64.wrap ((IntKind.u64.wrap ((IntKind.u64.wrap ((IntKind.u64.wrap (rd y206 x27_1)) * (IntKind.u64.wrap (rd y212 x32_2)))) + (IntKind.u64.wrap (rd x6_2 (ji30))))) + x8_2)) % 4294967296)))) ?hg ?ho ?hn ?hr ?_;(case ho => rfl);(case hg => rfl);(case hn => rfl);(case hr => first | (go_simp;done) | (go_simp;rfl));intro w36 hw;have hg : wr.grownBy w36 (some go33) := (by rw [hw];exact HP35.2);have hp_ : Kd.R (Kd.int .u32) 43 w36 w.heap.size (fun k_ => (w.heap.size ≤ k_)) (.slice (some ⟨go33,0,none⟩) x6_2.length co34) y227 := (by rw [hw,Ny227.out];exact HP35.1);clear HP35;replace HO_0 := Aside0.mk (Kd.V_afterv (v := (.slice (some ⟨go33,0,none⟩) x6_2.length co34)) (v1 := (.slice (some ⟨go33,0,none⟩) x6_2.length co34)) (ok := (fun k_ => ((P0_ k_ ∨ P1_ k_) ∨ w.heap.size ≤ k_))) (va_ HO_0.out) hg (.inl rfl));replace HO_1 := Aside0.mk (Kd.V_afterv (v := (.slice (some ⟨go33,0,none⟩) x6_2.length co34)) (v1 := (.slice (some ⟨go33,0,none⟩) x6_2.length co34)) (ok := (fun k_ => ((P0_ k_ ∨ P1_ k_) ∨ w.heap.size ≤ k_))) (va_ HO_1.out) hg (.inl rfl));replace HO_6 := Aside0.mk (hp_);replace HB := Aside0.mk ((by rw [hw];exact below_set (HB.out) GB33.out : Below w.heap.size w w36));clear hg hw hp_)))
                    (first | go_roundg k2 | (simp only [← hji30];go_roundg k2))
                    case measure => have := HK1.out;have := HK2.out;omega
                    case rel => exact ⟨(y227),((IntKind.u64.wrap ((IntKind.u64.wrap ((IntKind.u64.wrap ((IntKind.u64.wrap (rd y206 x27_1)) * (IntKind.u64.wrap (rd y212 x32_2)))) + (IntKind.u64.wrap (rd x6_2 (ji30))))) + x8_2)) / 4294967296),(wrap64 (x32_2 + 1)),(by first | rfl | (simp;done) | (simp only [← hji30] <;> (first | rfl | simp)) | (simp [*];done)),(by first | rfl | (simp;done) | (simp [*];done)),(by first | exact H' | (rw [hji14];exact H') | (rw [hji30];exact H') | (rw [hji37];exact H')),⟨by have := HK1.out;have := HK2.out;omega⟩,⟨by (with_reducible repeat (first | apply Kd.V_alloc | apply Kd.V_drewN | apply Kd.V_drew));exact HO_0.out⟩,⟨by (with_reducible repeat (first | apply Kd.V_alloc | apply Kd.V_drewN | apply Kd.V_drew));exact HO_1.out⟩,⟨by (with_reducible repeat (first | apply Kd.R_alloc | apply Kd.R_drewN | apply Kd.R_drew));exact HO_6.out⟩,⟨by repeat (first | (with_reducible first | exact HB.out | apply below_alloc | apply pw_below_drewN | apply below_drew1) | exact HB.out)⟩⟩
                   ·rw [if_neg c32] at H
                    exact absurd H (by simp)
                  ·rw [if_neg c31] at H
                   exact absurd H (by simp)
                 ·rw [if_neg c29] at H
                  exact absurd H (by simp)
                ·rw [if_neg c28] at H
                 exact absurd H (by simp)
               ·rw [if_neg c27] at H
                exact absurd H (by simp)
              ·rw [if_neg c26] at H
               exact absurd H (by simp)
             ·rw [if_neg c25] at H
              have c25b0 : decide (x32_2 < (y212.length : Int)) = false := decide_eq_false c25
              clear c25
              obtain ⟨ji37,hji37⟩ : ∃ j_ : Int,(wrap64 (x27_1 + (y212.length : Int))) = j_ := ⟨_,rfl⟩
              replace H : (if 0 ≤ (ji37) then (if (ji37) < (x6_2.length : Int) then (nat_Mul.l0 k2 y206 y212 (x6_2.set ((ji37) : Int).toNat ((x8_2) % 4294967296)) (y206.length : Int) (wrap64 (x27_1 + 1))) else (none)) else (none)) = some (r1,r2) := by first | (rw [hji37] at H;exact H) | (simp only [hji37] at H ⊢;exact H)
              have hji37w : (IntKind.i64.wrap (x27_1 + (y212.length : Int))) = ji37 := (i64_w _).trans hji37
              by_cases c38 : 0 ≤ (ji37)
              ·rw [if_pos c38] at H
               have c38b0 : decide (0 ≤ (ji37)) = true := decide_eq_true c38
               clear c38
               by_cases c39 : (ji37) < (x6_2.length : Int)
               ·rw [if_pos c39] at H
                have c39b0 : decide ((ji37) < (x6_2.length : Int)) = true := decide_eq_true c39
                clear c39
                obtain ⟨y228,hy228⟩ : ∃ y_ : List Int,y_ = (x6_2.set ((ji37) : Int).toNat ((x8_2) % 4294967296)) := ⟨_,rfl⟩
                replace H : (nat_Mul.l0 k2 y206 y212 y228 (y206.length : Int) (wrap64 (x27_1 + 1))) = some (r1,r2) := by first | (rw [hy228];with_reducible exact H) | (have H2_ := (Option.bind_some _ _).symm.trans H;rw [hy228];with_reducible exact H2_) | (have H2_ := (Option.bind_some _ _).symm.trans H;with_reducible exact H2_) | with_reducible exact H | (rw [hy228];exact H) | exact H
                have Ny228 := Aside0.mk hy228
                clear hy228
                have H' := Aside0.mk H
                clear H
                have p40 : 0 ≤ ((ji37) : Int) := od_
                have q40 : ((ji37) : Int) < ((x6_2.length : Int) : Int) := od_
                obtain ⟨go40,co40,eo40,gb40,gl40,cl40,HG40⟩ := Kd.R_form HO_6.out (by omega)
                (first | cases eo40 | (injection eo40 with ea_ en_ ec_;(first | subst ea_ | (injection ea_ with ea_;subst ea_));subst ec_;clear en_))
                have GB40 := Aside0.mk gb40
                have GG40 := Aside0.mk HG40
                clear gb40 gl40 HG40
                obtain ⟨hx40_0,hf40_0⟩ := Kd.R_celln 0 HO_6.out ((ji37) : Int) p40 q40
                replace p40 := eq_true p40
                replace q40 := eq_true q40
                have HP41 := Kd.R_putg HO_6.out ((ji37) : Int) ((x8_2) % 4294967296)
                go_wp2_with (first | ((with_reducible refine gate_store (t := 43) (p := 73) rfl ?_);(try (rw [drewN_self wr];generalize hq_ : World.drewN wr _ = wr;have n0_ := Aside0.mk (V_hq hq_ HO_0.out);have n1_ := Aside0.mk (V_hq hq_ HO_1.out);have n2_ := Aside0.mk (Kd.R_at hq_ HO_6.out);have n3_ := Aside0.mk (below_at hq_ HB.out);clear hq_ HO_0 HO_1 HO_6 HB;have HO_0 := n0_;have HO_1 := n1_;have HO_6 := n2_;have HB := n3_;clear n0_ n1_ n2_ n3_;(try (obtain ⟨hx40_0,hf40_0⟩ := Kd.R_celln 0 HO_6.out ((ji37) : Int) (of_eq_true p40) (of_eq_true q40)));(try (have HP41 := Kd.R_putg HO_6.out ((ji37) : Int) ((x8_2) % 4294967296)))));refine store_event (t := 43) (p := 73) (v := ?vo_w42) (w1 := (wr.setCell ⟨go40,((ji37) : Int).toNat,none⟩ (.int .u32 ((x8_2) % 4294967296)))) ?hg ?ho ?hn ?hr ?_;(case ho => rfl);(case hg => rfl);(case hn => rfl);(case hr => first | (go_simp;done) | (go_simp;rfl));intro w42 hw;have hg : wr.grownBy w42 (some go40) := (by rw [hw];exact HP41.2);have hp_ : Kd.R (Kd.int .u32) 43 w42 w.heap.size (fun k_ => (w.heap.size ≤ k_)) (.slice (some ⟨go40,0,none⟩) x6_2.length co40) y228 := (by rw [hw,Ny228.out];exact HP41.1);clear HP41;replace HO_0 := Aside0.mk (Kd.V_afterv (v := (.slice (some ⟨go40,0,none⟩) x6_2.length co40)) (v1 := (.slice (some ⟨go40,0,none⟩) x6_2.length co40)) (ok := (fun k_ => ((P0_ k_ ∨ P1_ k_) ∨ w.heap.size ≤ k_))) (va_ HO_0.out) hg (.inl rfl));replace HO_1 := Aside0.mk (Kd.V_afterv (v := (.slice (some ⟨go40,0,none⟩) x6_2.length co40)) (v1 := (.slice (some ⟨go40,0,none⟩) x6_2.length co40)) (ok := (fun k_ => ((P0_ k_ ∨ P1_ k_) ∨ w.heap.size ≤ k_))) (va_ HO_1.out) hg (.inl rfl));replace HO_6 := Aside0.mk (hp_);replace HB := Aside0.mk ((by rw [hw];exact below_set (HB.out) GB40.out : Below w.heap.size w w42));clear hg hw hp_))
                repeat (go_quiet (first | ((with_reducible refine gate_store (t := 43) (p := 73) rfl ?_);(try (rw [drewN_self wr];generalize hq_ : World.drewN wr _ = wr;have n0_ := Aside0.mk (V_hq hq_ HO_0.out);have n1_ := Aside0.mk (V_hq hq_ HO_1.out);have n2_ := Aside0.mk (Kd.R_at hq_ HO_6.out);have n3_ := Aside0.mk (below_at hq_ HB.out);clear hq_ HO_0 HO_1 HO_6 HB;have HO_0 := n0_;have HO_1 := n1_;have HO_6 := n2_;have HB := n3_;clear n0_ n1_ n2_ n3_;(try (obtain ⟨hx40_0,hf40_0⟩ := Kd.R_celln 0 HO_6.out ((ji37) : Int) (of_eq_true p40) (of_eq_true q40)));(try (have HP41 := Kd.R_putg HO_6.out ((ji37) : Int) ((x8_2) % 4294967296)))));refine store_event (t := 43) (p := 73) (v := ?vo_w42) (w1 := (wr.setCell ⟨go40,((ji37) : Int).toNat,none⟩ (.int .u32 ((x8_2) % 4294967296)))) ?hg ?ho ?hn ?hr ?_;(case ho => rfl);(case hg => rfl);(case hn => rfl);(case hr => first | (go_simp;done) | (go_simp;rfl));intro w42 hw;have hg : wr.grownBy w42 (some go40) := (by rw [hw];exact HP41.2);have hp_ : Kd.R (Kd.int .u32) 43 w42 w.heap.size (fun k_ => (w.heap.size ≤ k_)) (.slice (some ⟨go40,0,none⟩) x6_2.length co40) y228 := (by rw [hw,Ny228.out];exact HP41.1);clear HP41;replace HO_0 := Aside0.mk (Kd.V_afterv (v := (.slice (some ⟨go40,0,none⟩) x6_2.length co40)) (v1 := (.slice (some ⟨go40,0,none⟩) x6_2.length co40)) (ok := (fun k_ => ((P0_ k_ ∨ P1_ k_) ∨ w.heap.size ≤ k_))) (va_ HO_0.out) hg (.inl rfl));replace HO_1 := Aside0.mk (Kd.V_afterv (v := (.slice (some ⟨go40,0,none⟩) x6_2.length co40)) (v1 := (.slice (some ⟨go40,0,none⟩) x6_2.length co40)) (ok := (fun k_ => ((P0_ k_ ∨ P1_ k_) ∨ w.heap.size ≤ k_))) (va_ HO_1.out) hg (.inl rfl));replace HO_6 := Aside0.mk (hp_);replace HB := Aside0.mk ((by rw [hw];exact below_set (HB.out) GB40.out : Below w.heap.size w w42));clear hg hw hp_));try go_wp2_with (first | ((with_reducible refine gate_store (t := 43) (p := 73) rfl ?_);(try (rw [drewN_self wr];generalize hq_ : World.drewN wr _ = wr;have n0_ := Aside0.mk (V_hq hq_ HO_0.out);have n1_ := Aside0.mk (V_hq hq_ HO_1.out);have n2_ := Aside0.mk (Kd.R_at hq_ HO_6.out);have n3_ := Aside0.mk (below_at hq_ HB.out);clear hq_ HO_0 HO_1 HO_6 HB;have HO_0 := n0_;have HO_1 := n1_;have HO_6 := n2_;have HB := n3_;clear n0_ n1_ n2_ n3_;(try (obtain ⟨hx40_0,hf40_0⟩ := Kd.R_celln 0 HO_6.out ((ji37) : Int) (of_eq_true p40) (of_eq_true q40)));(try (have HP41 := Kd.R_putg HO_6.out ((ji37) : Int) ((x8_2) % 4294967296)))));refine store_event (t := 43) (p := 73) (v := ?vo_w42) (w1 := (wr.setCell ⟨go40,((ji37) : Int).toNat,none⟩ (.int .u32 ((x8_2) % 4294967296)))) ?hg ?ho ?hn ?hr ?_;(case ho => rfl);(case hg => rfl);(case hn => rfl);(case hr => first | (go_simp;done) | (go_simp;rfl));intro w42 hw;have hg : wr.grownBy w42 (some go40) := (by rw [hw];exact HP41.2);have hp_ : Kd.R (Kd.int .u32) 43 w42 w.heap.size (fun k_ => (w.heap.size ≤ k_)) (.slice (some ⟨go40,0,none⟩) x6_2.length co40) y228 := (by rw [hw,Ny228.out];exact HP41.1);clear HP41;replace HO_0 := Aside0.mk (Kd.V_afterv (v := (.slice (some ⟨go40,0,none⟩) x6_2.length co40)) (v1 := (.slice (some ⟨go40,0,none⟩) x6_2.length co40)) (ok := (fun k_ => ((P0_ k_ ∨ P1_ k_) ∨ w.heap.size ≤ k_))) (va_ HO_0.out) hg (.inl rfl));replace HO_1 := Aside0.mk (Kd.V_afterv (v := (.slice (some ⟨go40,0,none⟩) x6_2.length co40)) (v1 := (.slice (some ⟨go40,0,none⟩) x6_2.length co40)) (ok := (fun k_ => ((P0_ k_ ∨ P1_ k_) ∨ w.heap.size ≤ k_))) (va_ HO_1.out) hg (.inl rfl));replace HO_6 := Aside0.mk (hp_);replace HB := Aside0.mk ((by rw [hw];exact below_set (HB.out) GB40.out : Below w.heap.size w w42));clear hg hw hp_)))
                (first | go_roundg k2 | (simp only [← hji37];go_roundg k2))
                case measure => have := HK1.out;have := HK2.out;omega
                case rel => exact ⟨(y228),(wrap64 (x27_1 + 1)),(by first | rfl | (simp;done) | (simp [*];done)),(by first | exact H' | (rw [hji14];exact H') | (rw [hji30];exact H') | (rw [hji37];exact H')),⟨by have := HK1.out;have := HK2.out;omega⟩,⟨by (with_reducible repeat (first | apply Kd.V_alloc | apply Kd.V_drewN | apply Kd.V_drew));exact HO_0.out⟩,⟨by (with_reducible repeat (first | apply Kd.V_alloc | apply Kd.V_drewN | apply Kd.V_drew));exact HO_1.out⟩,⟨by (with_reducible repeat (first | apply Kd.R_alloc | apply Kd.R_drewN | apply Kd.R_drew));exact HO_6.out⟩,⟨by repeat (first | (with_reducible first | exact HB.out | apply below_alloc | apply pw_below_drewN | apply below_drew1) | exact HB.out)⟩⟩
               ·rw [if_neg c39] at H
                exact absurd H (by simp)
              ·rw [if_neg c38] at H
               exact absurd H (by simp)
          ·rw [if_neg c24] at H
           have c24b0 : decide (x27_1 < (y206.length : Int)) = false := decide_eq_false c24
           clear c24
           replace H := Option.bind_eq_some_iff.mp H
           obtain ⟨⟨t220,t223⟩,A430,H⟩ := H
           replace H : (some (t220,t223)) = some (r1,r2) := H
           have A43 := Aside0.mk A430
           clear A430
           simp only [Option.some.injEq,Prod.mk.injEq] at H
           obtain ⟨rfl,rfl⟩ := H
           obtain ⟨Ao44,co44,eo44⟩ := Kd.R_slice HO_6.out
           subst eo44
           go_wp2_with (first | (go_at_call 27;(with_reducible refine (nat_fits.calls k1 (fun k_ => some k_ = (.slice Ao44 x6_1.length co44 : Value).ownBlock) (.slice Ao44 x6_1.length co44) x6_1 t220 t223 w _ ?side1 ?side2 A43.out).mono ?_);(case side1 => repeat (first | (with_reducible first | exact HB.out | apply below_alloc | apply pw_below_drewN | apply below_drew1) | exact HB.out));(case side2 => exact Kd.R_tight rfl HO_6.out);rintro e w45 ⟨v221,rfl,ho0,hb,hkp⟩;replace HO_0 := Aside0.mk (Kd.V_mono (ok' := fun k_ => ((P0_ k_ ∨ P1_ k_) ∨ w.heap.size ≤ k_) ∧ some k_ ≠ (v221 : Value).ownBlock) (Kd.V_keptB (HO_0.out) hkp (fun k_ hk_ hs_ => (hk_.2) hs_)) (fun k_ hk_ => ⟨hk_.1.1,fun e_ => Or.elim (ho0.1 k_ e_.symm) (fun hs_ => hk_.2.1 hs_) (fun hn_ => Nat.not_le.2 hk_.2.2 hn_)⟩));replace HO_1 := Aside0.mk (Kd.V_mono (ok' := fun k_ => ((P0_ k_ ∨ P1_ k_) ∨ w.heap.size ≤ k_) ∧ some k_ ≠ (v221 : Value).ownBlock) (Kd.V_keptB (HO_1.out) hkp (fun k_ hk_ hs_ => (hk_.2) hs_)) (fun k_ hk_ => ⟨hk_.1.1,fun e_ => Or.elim (ho0.1 k_ e_.symm) (fun hs_ => hk_.2.1 hs_) (fun hn_ => Nat.not_le.2 hk_.2.2 hn_)⟩));have HO222 := Aside0.mk (Kd.R_mono (ok' := fun k_ => (w.heap.size ≤ k_)) ho0 (fun k_ hk_ => Or.elim hk_ (fun hs_ => (HO_6.out.1 k_ (hs_).symm)) (fun hn_ => (Nat.le_trans (below_size bl_) hn_))));replace HB := Aside0.mk (hb);clear HO_6;(try clear hb);(try clear hkp);(try clear ho0)))
           repeat (go_quiet (first | (go_at_call 27;(with_reducible refine (nat_fits.calls k1 (fun k_ => some k_ = (.slice Ao44 x6_1.length co44 : Value).ownBlock) (.slice Ao44 x6_1.length co44) x6_1 t220 t223 w _ ?side1 ?side2 A43.out).mono ?_);(case side1 => repeat (first | (with_reducible first | exact HB.out | apply below_alloc | apply pw_below_drewN | apply below_drew1) | exact HB.out));(case side2 => exact Kd.R_tight rfl HO_6.out);rintro e w45 ⟨v221,rfl,ho0,hb,hkp⟩;replace HO_0 := Aside0.mk (Kd.V_mono (ok' := fun k_ => ((P0_ k_ ∨ P1_ k_) ∨ w.heap.size ≤ k_) ∧ some k_ ≠ (v221 : Value).ownBlock) (Kd.V_keptB (HO_0.out) hkp (fun k_ hk_ hs_ => (hk_.2) hs_)) (fun k_ hk_ => ⟨hk_.1.1,fun e_ => Or.elim (ho0.1 k_ e_.symm) (fun hs_ => hk_.2.1 hs_) (fun hn_ => Nat.not_le.2 hk_.2.2 hn_)⟩));replace HO_1 := Aside0.mk (Kd.V_mono (ok' := fun k_ => ((P0_ k_ ∨ P1_ k_) ∨ w.heap.size ≤ k_) ∧ some k_ ≠ (v221 : Value).ownBlock) (Kd.V_keptB (HO_1.out) hkp (fun k_ hk_ hs_ => (hk_.2) hs_)) (fun k_ hk_ => ⟨hk_.1.1,fun e_ => Or.elim (ho0.1 k_ e_.symm) (fun hs_ => hk_.2.1 hs_) (fun hn_ => Nat.not_le.2 hk_.2.2 hn_)⟩));have HO222 := Aside0.mk (Kd.R_mono (ok' := fun k_ => (w.heap.size ≤ k_)) ho0 (fun k_ hk_ => Or.elim hk_ (fun hs_ => (HO_6.out.1 k_ (hs_).symm)) (fun hn_ => (Nat.le_trans (below_size bl_) hn_))));replace HB := Aside0.mk (hb);clear HO_6;(try clear hb);(try clear hkp);(try clear ho0)));try go_wp2_with (first | (go_at_call 27;(with_reducible refine (nat_fits.calls k1 (fun k_ => some k_ = (.slice Ao44 x6_1.length co44 : Value).ownBlock) (.slice Ao44 x6_1.length co44) x6_1 t220 t223 w _ ?side1 ?side2 A43.out).mono ?_);(case side1 => repeat (first | (with_reducible first | exact HB.out | apply below_alloc | apply pw_below_drewN | apply below_drew1) | exact HB.out));(case side2 => exact Kd.R_tight rfl HO_6.out);rintro e w45 ⟨v221,rfl,ho0,hb,hkp⟩;replace HO_0 := Aside0.mk (Kd.V_mono (ok' := fun k_ => ((P0_ k_ ∨ P1_ k_) ∨ w.heap.size ≤ k_) ∧ some k_ ≠ (v221 : Value).ownBlock) (Kd.V_keptB (HO_0.out) hkp (fun k_ hk_ hs_ => (hk_.2) hs_)) (fun k_ hk_ => ⟨hk_.1.1,fun e_ => Or.elim (ho0.1 k_ e_.symm) (fun hs_ => hk_.2.1 hs_) (fun hn_ => Nat.not_le.2 hk_.2.2 hn_)⟩));replace HO_1 := Aside0.mk (Kd.V_mono (ok' := fun k_ => ((P0_ k_ ∨ P1_ k_) ∨ w.heap.size ≤ k_) ∧ some k_ ≠ (v221 : Value).ownBlock) (Kd.V_keptB (HO_1.out) hkp (fun k_ hk_ hs_ => (hk_.2) hs_)) (fun k_ hk_ => ⟨hk_.1.1,fun e_ => Or.elim (ho0.1 k_ e_.symm) (fun hs_ => hk_.2.1 hs_) (fun hn_ => Nat.not_le.2 hk_.2.2 hn_)⟩));have HO222 := Aside0.mk (Kd.R_mono (ok' := fun k_ => (w.heap.size ≤ k_)) ho0 (fun k_ hk_ => Or.elim hk_ (fun hs_ => (HO_6.out.1 k_ (hs_).symm)) (fun hn_ => (Nat.le_trans (below_size bl_) hn_))));replace HB := Aside0.mk (hb);clear HO_6;(try clear hb);(try clear hkp);(try clear ho0))))
           go_ret2
           exact ⟨_,by first | rfl | (simp [errW_none,errW_some] <;> rfl) | (simp only [← hji14];first | rfl | (simp [errW_none,errW_some] <;> rfl)) | (simp [*,errW_none,errW_some] <;> rfl),by (with_reducible repeat (first | apply Kd.R_alloc | apply Kd.R_drewN | apply Kd.R_drew));exact HO222.out,by repeat (first | (with_reducible first | exact HB.out | apply below_alloc | apply pw_below_drewN | apply below_drew1) | exact HB.out)⟩
       ·rw [if_neg c16] at H
        exact absurd H (by simp)
      ·rw [if_neg c15] at H
       exact absurd H (by simp)
     ·rw [if_neg c13] at H
      exact absurd H (by simp)
    ·rw [if_neg c12] at H
     exact absurd H (by simp)
   ·rw [if_neg c10] at H
    exact absurd H (by simp)
  ·rw [if_neg c9] at H
   exact absurd H (by simp)

end Go.Proofs.YtfcenlhaepckoaaDoor.P
