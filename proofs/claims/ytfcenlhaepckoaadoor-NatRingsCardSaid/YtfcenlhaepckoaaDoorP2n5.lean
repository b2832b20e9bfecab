-- Printed by a program of this session (wip/tools) over the kit's print: not trusted, Lean checks it.
import Derived.Test.YtfcenlhaepckoaaDoorP0n5
import Derived.Test.YtfcenlhaepckoaaDoorProg
import Derived.Test.YtfcenlhaepckoaaDoorElibn5
import Derived.Test.YtfcenlhaepckoaaDoorSqn5
import Derived.Test.YtfcenlhaepckoaaDoorP1n5
import Derived.Test.YtfcenlhaepckoaaDoorLibsn5
namespace Go.Proofs.YtfcenlhaepckoaaDoor.P
set_option linter.all false
open Go.RowKit Go.Proofs.YtfcenlhaepckoaaDoorW.PrintWords Go.Proofs.YtfcenlhaepckoaaDoorW.PrintLast Go.Proofs.YtfcenlhaepckoaaDoorW.PrintMore
attribute [local go_sem] max2_int min2_int max_two min_two max_three min_three max_four min_four   -- for this text's walks alone
attribute [local go_sem] cell_after
set_option linter.unusedVariables false
set_option linter.unusedSimpArgs false

/-! ### nat_fits: function 27 -/
def nat_fits.f (k : Nat) (l0 : List Int) : Option (List Int × Int) := (nat_right.f k l0).bind fun t131 => (if 0 ≤ t131 then (if t131 ≤ (l0.length : Int) then ((some (l0.take (t131 : Int).toNat : List Int)).bind fun y132 => (if (y132.length : Int) > 256 then (some (([] : List Int),2)) else (some (y132,0)))) else (none)) else (none))
set_option maxHeartbeats 8000000 in
set_option maxRecDepth 100000 in
theorem nat_fits.calls (k : Nat) (P0_ : Nat → Prop) (u9000_ : Value) (l0 : List Int) (r1 : List Int) (r2 : Int) (w0 w : World) (hB : Below w0.heap.size w0 w) (ho0 : Kd.R (Kd.int .u32) 43 w w0.heap.size P0_ u9000_ l0) (h : nat_fits.f k l0 = some (r1,r2)) :
  Calls Tryd.prog 27 #[u9000_] w fun e w' => ∃ v0_ : Value,e = .returned (.tuple #[v0_,.int .i64 r2]) ∧ Kd.R (Kd.int .u32) 43 w' w0.heap.size (fun k_ => (P0_ k_ ∨ w.heap.size ≤ k_)) v0_ r1 ∧ Below w0.heap.size w0 w' ∧ Kept w w' (fun k_ => P0_ k_) := by
 have HO0 := Aside0.mk (show Kd.R (Kd.int .u32) 43 w w0.heap.size (fun k_ => (P0_ k_ ∨ w.heap.size ≤ k_)) u9000_ l0 from Kd.R_mono ho0 (fun k_ hk => (.inl hk)))
 have HK := Aside0.mk (Kept.refl w (fun k_ => P0_ k_))
 have HW0 := Aside0.mk hB.size
 have HB := Aside0.mk hB
 clear hB
 have H : ((nat_right.f k l0).bind fun t131 => (if 0 ≤ t131 then (if t131 ≤ (l0.length : Int) then ((some (l0.take (t131 : Int).toNat : List Int)).bind fun y132 => (if (y132.length : Int) > 256 then (some (([] : List Int),2)) else (some (y132,0)))) else (none)) else (none))) = some (r1,r2) := h
 clear h
 replace H := Option.bind_eq_some_iff.mp H
 obtain ⟨t131,A20,H⟩ := H
 replace H : (if 0 ≤ t131 then (if t131 ≤ (l0.length : Int) then ((some (l0.take (t131 : Int).toNat : List Int)).bind fun y132 => (if (y132.length : Int) > 256 then (some (([] : List Int),2)) else (some (y132,0)))) else (none)) else (none)) = some (r1,r2) := H
 have A2 := Aside0.mk A20
 clear A20
 by_cases c3 : 0 ≤ t131
 ·rw [if_pos c3] at H
  have c3b0 := eq_true c3
  have c3b1 : decide (0 ≤ t131) = true := decide_eq_true c3
  clear c3
  by_cases c4 : t131 ≤ (l0.length : Int)
  ·rw [if_pos c4] at H
   have c4b0 := eq_true c4
   have c4b1 : decide (t131 ≤ (l0.length : Int)) = true := decide_eq_true c4
   clear c4
   obtain ⟨y132,hy132⟩ : ∃ y_ : List Int,y_ = (l0.take (t131 : Int).toNat) := ⟨_,rfl⟩
   replace H : (if (y132.length : Int) > 256 then (some (([] : List Int),2)) else (some (y132,0))) = some (r1,r2) := by first | (rw [hy132];with_reducible exact H) | (have H2_ := (Option.bind_some _ _).symm.trans H;rw [hy132];with_reducible exact H2_) | (have H2_ := (Option.bind_some _ _).symm.trans H;with_reducible exact H2_) | with_reducible exact H | (rw [hy132];exact H) | exact H
   have Ny132 := Aside0.mk hy132
   clear hy132
   by_cases c5 : (y132.length : Int) > 256
   ·rw [if_pos c5] at H
    have c5b0 : decide (256 < (y132.length : Int)) = true := decide_eq_true c5
    have c5b1 : decide (256 < y132.length) = true := decide_eq_true (by omega)
    clear c5
    simp only [Option.some.injEq,Prod.mk.injEq] at H
    obtain ⟨rfl,rfl⟩ := H
    obtain ⟨Ao6,co6,eo6⟩ := Kd.R_slice HO0.out
    subst eo6
    go_enter Tryd.func27,Tryd.ntmps27
    go_wp2_with (first | ((with_reducible refine gate_callee (f := 25) rfl ?_);refine goesL_ (some 5) rfl rfl Tryd.func25 (by kernel_rfl) rfl #[.slice Ao6 l0.length co6] rfl am_ ?_;(with_reducible refine (nat_cut_read.calls (l' := y132) (hl' := Ny132.out) k _ _ l0 t131 _ ?side1 ?side2 A2.out).mono ?_);(case side1 => exact ca_ (Kd.R_reads' HO0.out).2.2);(case side2 => exact (Kd.R_reads' HO0.out).2.1);rintro e w' ⟨rfl,⟨nd,rfl⟩⟩;refine ⟨_,rfl,?_⟩;have q7 : (t131 : Int) ≤ ((l0.length : Int) : Int) := od_;obtain ⟨i07,hi07,_,hsz7,_⟩ := info_parts info43;have hcut7 := cut_to (P := Tryd.prog) 24 43 .i64 Tryd.underlying24 hi07 Ao6 l0.length co6 t131 od_ q7 (Kd.R_reads' HO0.out).2.1;have hr7 := Kd.R_take (m := (t131 : Int).toNat) HO0.out (by have e_ := (Kd.R_reads' HO0.out).1;omega);have hy7 : y132.length = (t131 : Int).toNat := (by have e_ := (Kd.R_reads' HO0.out).1;rw [Ny132.out,List.length_take];omega);rw [← Ny132.out] at hr7;rw [← hy7] at hr7 hcut7;clear hy7 hi07 hsz7 HO0;have HO134 := Aside0.mk hr7;clear hr7;replace q7 := eq_true q7))
    go_ret2
    exact ⟨_,by first | rfl | (simp [errW_none,errW_some] <;> rfl) | (simp [*,errW_none,errW_some] <;> rfl),by first | exact Kd.R_nil _ _ _ _ _ | exact Kd.N_nil _ _ _ _ _ | exact Kd.V_nil _ _ _ _ _ | exact Kd.Q_nil _ _ _ _ _ | exact Kd.S_nil _ _ _ _ _,by repeat (first | (with_reducible first | exact HB.out | apply below_alloc | apply pw_below_drewN | apply below_drew1) | exact HB.out),by repeat (first | (with_reducible first | exact HK.out | apply Kept.alloc | apply Kept.drewN | apply Kept.drew) | exact HK.out)⟩
   ·rw [if_neg c5] at H
    have c5b0 : decide (256 < (y132.length : Int)) = false := decide_eq_false c5
    have c5b1 : decide (256 < y132.length) = false := decide_eq_false (by omega)
    clear c5
    simp only [Option.some.injEq,Prod.mk.injEq] at H
    obtain ⟨rfl,rfl⟩ := H
    obtain ⟨Ao8,co8,eo8⟩ := Kd.R_slice HO0.out
    subst eo8
    go_enter Tryd.func27,Tryd.ntmps27
    go_wp2_with (first | ((with_reducible refine gate_callee (f := 25) rfl ?_);refine goesL_ (some 5) rfl rfl Tryd.func25 (by kernel_rfl) rfl #[.slice Ao8 l0.length co8] rfl am_ ?_;(with_reducible refine (nat_cut_read.calls (l' := y132) (hl' := Ny132.out) k _ _ l0 t131 _ ?side1 ?side2 A2.out).mono ?_);(case side1 => exact ca_ (Kd.R_reads' HO0.out).2.2);(case side2 => exact (Kd.R_reads' HO0.out).2.1);rintro e w' ⟨rfl,⟨nd,rfl⟩⟩;refine ⟨_,rfl,?_⟩;have q9 : (t131 : Int) ≤ ((l0.length : Int) : Int) := od_;obtain ⟨i09,hi09,_,hsz9,_⟩ := info_parts info43;have hcut9 := cut_to (P := Tryd.prog) 24 43 .i64 Tryd.underlying24 hi09 Ao8 l0.length co8 t131 od_ q9 (Kd.R_reads' HO0.out).2.1;have hr9 := Kd.R_take (m := (t131 : Int).toNat) HO0.out (by have e_ := (Kd.R_reads' HO0.out).1;omega);have hy9 : y132.length = (t131 : Int).toNat := (by have e_ := (Kd.R_reads' HO0.out).1;rw [Ny132.out,List.length_take];omega);rw [← Ny132.out] at hr9;rw [← hy9] at hr9 hcut9;clear hy9 hi09 hsz9 HO0;have HO134 := Aside0.mk hr9;clear hr9;replace q9 := eq_true q9))
    go_ret2
    exact ⟨_,by first | rfl | (simp [errW_none,errW_some] <;> rfl) | (simp [*,errW_none,errW_some] <;> rfl),by (with_reducible repeat (first | apply Kd.R_alloc | apply Kd.R_drewN | apply Kd.R_drew));exact HO134.out,by repeat (first | (with_reducible first | exact HB.out | apply below_alloc | apply pw_below_drewN | apply below_drew1) | exact HB.out),by repeat (first | (with_reducible first | exact HK.out | apply Kept.alloc | apply Kept.drewN | apply Kept.drew) | exact HK.out)⟩
  ·rw [if_neg c4] at H
   exact absurd H (by simp)
 ·rw [if_neg c3] at H
  exact absurd H (by simp)

/-! ### nat_Add: function 8 -/
mutual
def nat_Add.j0 : Nat → List Int → List Int → Option (List Int × Int)
 | 0,_,_ => none
 | k + 1,x0,x1 => if 0 ≤ (wrap64 ((x0.length : Int) + 1)) then (if (wrap64 ((x0.length : Int) + 1) : Int).toNat ≤ 70368744177664 then (nat_Add.l0 k x0 x1 (List.replicate (wrap64 ((x0.length : Int) + 1) : Int).toNat 0) 0 (x0.length : Int) 0) else (none)) else (none)
def nat_Add.l0 : Nat → List Int → List Int → List Int → Int → Int → Int → Option (List Int × Int)
 | 0,_,_,_,_,_,_ => none
 | k + 1,x0,x1,x6,x7,x30,x31 => if x31 < x30 then (if x31 < (x1.length : Int) then (if 0 ≤ x31 then (if x31 < (x0.length : Int) then ((bits_Add32.f (rd x0 x31) (rd x1 x31) x7).bind fun bt156 => (if x31 < (x6.length : Int) then (nat_Add.l0 k x0 x1 (x6.set (x31 : Int).toNat bt156.1) bt156.2 x30 (wrap64 (x31 + 1))) else (none))) else (none)) else (none)) else (if 0 ≤ x31 then (if x31 < (x0.length : Int) then ((bits_Add32.f (rd x0 x31) 0 x7).bind fun bt160 => (if x31 < (x6.length : Int) then (nat_Add.l0 k x0 x1 (x6.set (x31 : Int).toNat bt160.1) bt160.2 x30 (wrap64 (x31 + 1))) else (none))) else (none)) else (none))) else (if 0 ≤ (x0.length : Int) then (if (x0.length : Int) < (x6.length : Int) then ((nat_fits.f k (x6.set ((x0.length : Int) : Int).toNat x7)).bind fun bt164 => (some (bt164.1,bt164.2))) else (none)) else (none))
end
def nat_Add.f (k : Nat) (l0 : List Int) (l1 : List Int) : Option (List Int × Int) := (nat_over.f k (([l0,l1] : List (List Int)))).bind fun t138 => (if t138 = true then (some (([] : List Int),2)) else ((nat_right.f k l0).bind fun t139 => (if 0 ≤ t139 then (if t139 ≤ (l0.length : Int) then ((some (l0.take (t139 : Int).toNat : List Int)).bind fun y140 => ((nat_right.f k l1).bind fun t145 => (if 0 ≤ t145 then (if t145 ≤ (l1.length : Int) then ((some (l1.take (t145 : Int).toNat : List Int)).bind fun y146 => (if (y140.length : Int) < (y146.length : Int) then (nat_Add.j0 k y146 y140) else (nat_Add.j0 k y140 y146))) else (none)) else (none)))) else (none)) else (none))))
set_option maxHeartbeats 8000000 in
set_option maxRecDepth 100000 in
theorem nat_Add.calls (k : Nat) (P0_ : Nat → Prop) (A0 : Option Addr) (c0 : Nat) (l0 : List Int) (P1_ : Nat → Prop) (A1 : Option Addr) (c1 : Nat) (l1 : List Int) (r1 : List Int) (r2 : Int) (w : World) (hs0 : Kd.V (Kd.int .u32) 43 w w.heap.size (fun k_ => P0_ k_) (.slice A0 l0.length c0) l0) (hs1 : Kd.V (Kd.int .u32) 43 w w.heap.size (fun k_ => P1_ k_) (.slice A1 l1.length c1) l1) (h : nat_Add.f k l0 l1 = some (r1,r2)) :
  Calls Tryd.prog 8 #[.slice A0 l0.length c0,.slice A1 l1.length c1] w fun e w' => ∃ v0_ : Value,e = .returned (.tuple #[v0_,.int .i64 r2]) ∧ Kd.R (Kd.int .u32) 43 w' w.heap.size (fun k_ => (w.heap.size ≤ k_)) v0_ r1 ∧ Below w.heap.size w w' := by
 have HO0 := Aside0.mk (show Kd.V (Kd.int .u32) 43 w w.heap.size (fun k_ => ((P0_ k_ ∨ P1_ k_) ∨ w.heap.size ≤ k_)) (.slice A0 l0.length c0) l0 from Kd.V_mono hs0 (fun k_ hk => .inl (.inl hk)))
 have HO1 := Aside0.mk (show Kd.V (Kd.int .u32) 43 w w.heap.size (fun k_ => ((P0_ k_ ∨ P1_ k_) ∨ w.heap.size ≤ k_)) (.slice A1 l1.length c1) l1 from Kd.V_mono hs1 (fun k_ hk => .inl (.inr hk)))
 have HB := Aside0.mk (Below.refl w.heap.size w)
 have H : ((nat_over.f k (([l0,l1] : List (List Int)))).bind fun t138 => (if t138 = true then (some (([] : List Int),2)) else ((nat_right.f k l0).bind fun t139 => (if 0 ≤ t139 then (if t139 ≤ (l0.length : Int) then ((some (l0.take (t139 : Int).toNat : List Int)).bind fun y140 => ((nat_right.f k l1).bind fun t145 => (if 0 ≤ t145 then (if t145 ≤ (l1.length : Int) then ((some (l1.take (t145 : Int).toNat : List Int)).bind fun y146 => (if (y140.length : Int) < (y146.length : Int) then (nat_Add.j0 k y146 y140) else (nat_Add.j0 k y140 y146))) else (none)) else (none)))) else (none)) else (none))))) = some (r1,r2) := h
 clear h
 obtain ⟨y135,hy135⟩ : ∃ y_ : List (List Int),y_ = (([l0,l1] : List (List Int))) := ⟨_,rfl⟩
 replace H : ((nat_over.f k y135).bind fun t138 => (if t138 = true then (some (([] : List Int),2)) else ((nat_right.f k l0).bind fun t139 => (if 0 ≤ t139 then (if t139 ≤ (l0.length : Int) then ((some (l0.take (t139 : Int).toNat : List Int)).bind fun y140 => ((nat_right.f k l1).bind fun t145 => (if 0 ≤ t145 then (if t145 ≤ (l1.length : Int) then ((some (l1.take (t145 : Int).toNat : List Int)).bind fun y146 => (if (y140.length : Int) < (y146.length : Int) then (nat_Add.j0 k y146 y140) else (nat_Add.j0 k y140 y146))) else (none)) else (none)))) else (none)) else (none))))) = some (r1,r2) := by first | (rw [hy135];with_reducible exact H) | (have H2_ := (Option.bind_some _ _).symm.trans H;rw [hy135];with_reducible exact H2_) | (have H2_ := (Option.bind_some _ _).symm.trans H;with_reducible exact H2_) | with_reducible exact H | (rw [hy135];exact H) | exact H
 have Ny135 := Aside0.mk hy135
 clear hy135
 replace H := Option.bind_eq_some_iff.mp H
 obtain ⟨t138,A30,H⟩ := H
 replace H : (if t138 = true then (some (([] : List Int),2)) else ((nat_right.f k l0).bind fun t139 => (if 0 ≤ t139 then (if t139 ≤ (l0.length : Int) then ((some (l0.take (t139 : Int).toNat : List Int)).bind fun y140 => ((nat_right.f k l1).bind fun t145 => (if 0 ≤ t145 then (if t145 ≤ (l1.length : Int) then ((some (l1.take (t145 : Int).toNat : List Int)).bind fun y146 => (if (y140.length : Int) < (y146.length : Int) then (nat_Add.j0 k y146 y140) else (nat_Add.j0 k y140 y146))) else (none)) else (none)))) else (none)) else (none)))) = some (r1,r2) := H
 have A3 := Aside0.mk A30
 clear A30
 by_cases c4 : t138 = true
 ·subst c4
  have H1 : (some (([] : List Int),2)) = some (r1,r2) := by rw [if_pos rfl] at H;exact H
  clear H
  have H := H1
  clear H1
  simp only [Option.some.injEq,Prod.mk.injEq] at H
  obtain ⟨rfl,rfl⟩ := H
  go_enter Tryd.func8,Tryd.ntmps8
  go_wp2_with (first | ((with_reducible refine gate_dst (N := 12) rfl ?_);refine Kd.N_lit (Kd.slice 43 (Kd.int .u32)) _ 24 ?hg (N' := 12) ?hd (xs := ([l0,l1] : List (List Int))) (inner := [.slice A0 l0.length c0,.slice A1 l1.length c1]) (ok := (fun k_ => ((P0_ k_ ∨ P1_ k_) ∨ w.heap.size ≤ k_))) (okp := (fun k_ => ((P0_ k_ ∨ P1_ k_) ∨ w.heap.size ≤ k_))) ?hr ?hp (fun _ hk => hk) ((show ∀ k_,w.heap.size ≤ k_ → (fun k_ => ((P0_ k_ ∨ P1_ k_) ∨ w.heap.size ≤ k_)) k_ from fun k_ hk => (.inr (Nat.le_trans (below_size bl_) hk))) _ (Nat.le_refl _)) (Below.refl _ _) (Nat.le_refl _) (by simp) ?_;(case hd => rfl);(case hg => rfl);(case hr => first | (go_simp;done) | (go_simp;rfl));(case hp => exact (Reps.one (show Kd.FK (Kd.slice 43 (Kd.int .u32)) _ _ l0 [.slice A0 l0.length c0] from (Kd.FK_slice_mk (Kd.V_reads' (Kd.V_mono (ok' := (fun k_ => ((P0_ k_ ∨ P1_ k_) ∨ w.heap.size ≤ k_))) (HO0.out) (fun k_ hk => hk))).2.1 (Kd.V_F (Kd.V_mono (ok' := (fun k_ => ((P0_ k_ ∨ P1_ k_) ∨ w.heap.size ≤ k_))) (HO0.out) (fun k_ hk => hk))))) (Reps.one (show Kd.FK (Kd.slice 43 (Kd.int .u32)) _ _ l1 [.slice A1 l1.length c1] from (Kd.FK_slice_mk (Kd.V_reads' (Kd.V_mono (ok' := (fun k_ => ((P0_ k_ ∨ P1_ k_) ∨ w.heap.size ≤ k_))) (HO1.out) (fun k_ hk => hk))).2.1 (Kd.V_F (Kd.V_mono (ok' := (fun k_ => ((P0_ k_ ∨ P1_ k_) ∨ w.heap.size ≤ k_))) (HO1.out) (fun k_ hk => hk))))) (Reps.none _ _))));intro v136 w5 ho6 hb hg_ hnew_;clear hg_ hnew_;(first | rw [← Ny135.out] at ho6 | (simp only [Int.reduceToNat] at ho6;rw [← Ny135.out] at ho6));replace HO0 := Aside0.mk (Kd.V_elder' (va_ HO0.out) (Kd.N_base ho6) hb);replace HO1 := Aside0.mk (Kd.V_elder' (va_ HO1.out) (Kd.N_base ho6) hb);have HO137 := Aside0.mk (Kd.N_lower ho6 (below_size bl_));replace HB := Aside0.mk (below_step bl_ hb);clear hb ho6;obtain ⟨Ao7,co7,eo7⟩ := Kd.N_slice HO137.out;subst eo7) | ((with_reducible refine gate_callee (f := 24) rfl ?_);refine goesL_ (some 13) rfl rfl Tryd.func24 (by kernel_rfl) rfl #[.slice Ao7 y135.length co7] rfl am_ ?_;(with_reducible refine (nat_over.calls k _ _ y135 true _ ?side1 ?side2 A3.out).mono ?_);(case side1 => exact ca_ (Kd.N_reads' HO137.out).2.2);(case side2 => exact (Kd.N_reads' HO137.out).2.1);rintro e w' ⟨rfl,⟨nd,rfl⟩⟩;refine ⟨_,rfl,?_⟩))
  go_ret2
  exact ⟨_,by first | rfl | (simp [errW_none,errW_some] <;> rfl) | (simp [*,errW_none,errW_some] <;> rfl),by first | exact Kd.R_nil _ _ _ _ _ | exact Kd.N_nil _ _ _ _ _ | exact Kd.V_nil _ _ _ _ _ | exact Kd.Q_nil _ _ _ _ _ | exact Kd.S_nil _ _ _ _ _,by repeat (first | (with_reducible first | exact HB.out | apply below_alloc | apply pw_below_drewN | apply below_drew1) | exact HB.out)⟩
 ·replace c4 := Bool.eq_false_iff.mpr c4
  subst c4
  have H1 : ((nat_right.f k l0).bind fun t139 => (if 0 ≤ t139 then (if t139 ≤ (l0.length : Int) then ((some (l0.take (t139 : Int).toNat : List Int)).bind fun y140 => ((nat_right.f k l1).bind fun t145 => (if 0 ≤ t145 then (if t145 ≤ (l1.length : Int) then ((some (l1.take (t145 : Int).toNat : List Int)).bind fun y146 => (if (y140.length : Int) < (y146.length : Int) then (nat_Add.j0 k y146 y140) else (nat_Add.j0 k y140 y146))) else (none)) else (none)))) else (none)) else (none))) = some (r1,r2) := by rw [if_neg (show ¬ (false = true) by decide)] at H;exact H
  clear H
  have H := H1
  clear H1
  replace H := Option.bind_eq_some_iff.mp H
  obtain ⟨t139,A80,H⟩ := H
  replace H : (if 0 ≤ t139 then (if t139 ≤ (l0.length : Int) then ((some (l0.take (t139 : Int).toNat : List Int)).bind fun y140 => ((nat_right.f k l1).bind fun t145 => (if 0 ≤ t145 then (if t145 ≤ (l1.length : Int) then ((some (l1.take (t145 : Int).toNat : List Int)).bind fun y146 => (if (y140.length : Int) < (y146.length : Int) then (nat_Add.j0 k y146 y140) else (nat_Add.j0 k y140 y146))) else (none)) else (none)))) else (none)) else (none)) = some (r1,r2) := H
  have A8 := Aside0.mk A80
  clear A80
  by_cases c9 : 0 ≤ t139
  ·rw [if_pos c9] at H
   have c9b0 := eq_true c9
   have c9b1 : decide (0 ≤ t139) = true := decide_eq_true c9
   clear c9
   by_cases c10 : t139 ≤ (l0.length : Int)
   ·rw [if_pos c10] at H
    have c10b0 := eq_true c10
    have c10b1 : decide (t139 ≤ (l0.length : Int)) = true := decide_eq_true c10
    clear c10
    obtain ⟨y140,hy140⟩ : ∃ y_ : List Int,y_ = (l0.take (t139 : Int).toNat) := ⟨_,rfl⟩
    replace H : ((nat_right.f k l1).bind fun t145 => (if 0 ≤ t145 then (if t145 ≤ (l1.length : Int) then ((some (l1.take (t145 : Int).toNat : List Int)).bind fun y146 => (if (y140.length : Int) < (y146.length : Int) then (nat_Add.j0 k y146 y140) else (nat_Add.j0 k y140 y146))) else (none)) else (none))) = some (r1,r2) := by first | (rw [hy140];with_reducible exact H) | (have H2_ := (Option.bind_some _ _).symm.trans H;rw [hy140];with_reducible exact H2_) | (have H2_ := (Option.bind_some _ _).symm.trans H;with_reducible exact H2_) | with_reducible exact H | (rw [hy140];exact H) | exact H
    have Ny140 := Aside0.mk hy140
    clear hy140
    replace H := Option.bind_eq_some_iff.mp H
    obtain ⟨t145,A110,H⟩ := H
    replace H : (if 0 ≤ t145 then (if t145 ≤ (l1.length : Int) then ((some (l1.take (t145 : Int).toNat : List Int)).bind fun y146 => (if (y140.length : Int) < (y146.length : Int) then (nat_Add.j0 k y146 y140) else (nat_Add.j0 k y140 y146))) else (none)) else (none)) = some (r1,r2) := H
    have A11 := Aside0.mk A110
    clear A110
    by_cases c12 : 0 ≤ t145
    ·rw [if_pos c12] at H
     have c12b0 := eq_true c12
     have c12b1 : decide (0 ≤ t145) = true := decide_eq_true c12
     clear c12
     by_cases c13 : t145 ≤ (l1.length : Int)
     ·rw [if_pos c13] at H
      have c13b0 := eq_true c13
      have c13b1 : decide (t145 ≤ (l1.length : Int)) = true := decide_eq_true c13
      clear c13
      obtain ⟨y146,hy146⟩ : ∃ y_ : List Int,y_ = (l1.take (t145 : Int).toNat) := ⟨_,rfl⟩
      replace H : (if (y140.length : Int) < (y146.length : Int) then (nat_Add.j0 k y146 y140) else (nat_Add.j0 k y140 y146)) = some (r1,r2) := by first | (rw [hy146];with_reducible exact H) | (have H2_ := (Option.bind_some _ _).symm.trans H;rw [hy146];with_reducible exact H2_) | (have H2_ := (Option.bind_some _ _).symm.trans H;with_reducible exact H2_) | with_reducible exact H | (rw [hy146];exact H) | exact H
      have Ny146 := Aside0.mk hy146
      clear hy146
      have HC14 := Aside0.mk H
      clear H
      go_enter Tryd.func8,Tryd.ntmps8
      go_upto_if 22 with (first | ((with_reducible refine gate_dst (N := 12) rfl ?_);refine Kd.N_lit (Kd.slice 43 (Kd.int .u32)) _ 24 ?hg (N' := 12) ?hd (xs := ([l0,l1] : List (List Int))) (inner := [.slice A0 l0.length c0,.slice A1 l1.length c1]) (ok := (fun k_ => ((P0_ k_ ∨ P1_ k_) ∨ w.heap.size ≤ k_))) (okp := (fun k_ => ((P0_ k_ ∨ P1_ k_) ∨ w.heap.size ≤ k_))) ?hr ?hp (fun _ hk => hk) ((show ∀ k_,w.heap.size ≤ k_ → (fun k_ => ((P0_ k_ ∨ P1_ k_) ∨ w.heap.size ≤ k_)) k_ from fun k_ hk => (.inr (Nat.le_trans (below_size bl_) hk))) _ (Nat.le_refl _)) (Below.refl _ _) (Nat.le_refl _) (by simp) ?_;(case hd => rfl);(case hg => rfl);(case hr => first | (go_simp;done) | (go_simp;rfl));(case hp => exact (Reps.one (show Kd.FK (Kd.slice 43 (Kd.int .u32)) _ _ l0 [.slice A0 l0.length c0] from (Kd.FK_slice_mk (Kd.V_reads' (Kd.V_mono (ok' := (fun k_ => ((P0_ k_ ∨ P1_ k_) ∨ w.heap.size ≤ k_))) (HO0.out) (fun k_ hk => hk))).2.1 (Kd.V_F (Kd.V_mono (ok' := (fun k_ => ((P0_ k_ ∨ P1_ k_) ∨ w.heap.size ≤ k_))) (HO0.out) (fun k_ hk => hk))))) (Reps.one (show Kd.FK (Kd.slice 43 (Kd.int .u32)) _ _ l1 [.slice A1 l1.length c1] from (Kd.FK_slice_mk (Kd.V_reads' (Kd.V_mono (ok' := (fun k_ => ((P0_ k_ ∨ P1_ k_) ∨ w.heap.size ≤ k_))) (HO1.out) (fun k_ hk => hk))).2.1 (Kd.V_F (Kd.V_mono (ok' := (fun k_ => ((P0_ k_ ∨ P1_ k_) ∨ w.heap.size ≤ k_))) (HO1.out) (fun k_ hk => hk))))) (Reps.none _ _))));intro v136 w15 ho16 hb hg_ hnew_;clear hg_ hnew_;(first | rw [← Ny135.out] at ho16 | (simp only [Int.reduceToNat] at ho16;rw [← Ny135.out] at ho16));replace HO0 := Aside0.mk (Kd.V_elder' (va_ HO0.out) (Kd.N_base ho16) hb);replace HO1 := Aside0.mk (Kd.V_elder' (va_ HO1.out) (Kd.N_base ho16) hb);have HO137 := Aside0.mk (Kd.N_lower ho16 (below_size bl_));replace HB := Aside0.mk (below_step bl_ hb);clear hb ho16;obtain ⟨Ao17,co17,eo17⟩ := Kd.N_slice HO137.out;subst eo17) | ((with_reducible refine gate_callee (f := 24) rfl ?_);refine goesL_ (some 13) rfl rfl Tryd.func24 (by kernel_rfl) rfl #[.slice Ao17 y135.length co17] rfl am_ ?_;(with_reducible refine (nat_over.calls k _ _ y135 false _ ?side1 ?side2 A3.out).mono ?_);(case side1 => exact ca_ (Kd.N_reads' HO137.out).2.2);(case side2 => exact (Kd.N_reads' HO137.out).2.1);rintro e w' ⟨rfl,⟨nd,rfl⟩⟩;refine ⟨_,rfl,?_⟩) | ((with_reducible refine gate_callee (f := 25) rfl ?_);refine goesL_ (some 15) rfl rfl Tryd.func25 (by kernel_rfl) rfl #[.slice A0 l0.length c0] rfl am_ ?_;(with_reducible refine (nat_cut_read.calls (l' := y140) (hl' := Ny140.out) k _ _ l0 t139 _ ?side1 ?side2 A8.out).mono ?_);(case side1 => exact ca_ (Kd.V_reads' HO0.out).2.2);(case side2 => exact (Kd.V_reads' HO0.out).2.1);rintro e w' ⟨rfl,⟨nd,rfl⟩⟩;refine ⟨_,rfl,?_⟩;have q18 : (t139 : Int) ≤ ((l0.length : Int) : Int) := od_;obtain ⟨i018,hi018,_,hsz18,_⟩ := info_parts info43;have hroom18 : l0.length ≤ c0 := (Kd.V_reads' HO0.out).2.1;have hC18 : Kd.F (Kd.int .u32) _ _ A0 l0.length l0 := (Kd.V_at (base := w.heap.size) HO0.out).2.2;have hcut18 := cut_to (P := Tryd.prog) 24 43 .i64 Tryd.underlying24 hi018 A0 l0.length c0 t139 od_ q18 hroom18;have hr18 := Kd.F_take (m := (t139 : Int).toNat) hC18 (by omega);have hy18 : y140.length = (t139 : Int).toNat := (by rw [Ny140.out,List.length_take];omega);rw [← Ny140.out] at hr18;rw [← hy18] at hcut18;have HO144 := Aside0.mk (show Kd.V (Kd.int .u32) 43 _ w.heap.size _ (.slice A0 y140.length c0) y140 from Kd.V_mk (by omega) hr18);have HC144 := Aside0.mk (show y140.length ≤ c0 from by omega);clear hr18 hC18 hroom18 hi018 hsz18;have KY18 := Aside0.mk hy18;clear hy18;replace q18 := eq_true q18) | ((with_reducible refine gate_callee (f := 25) rfl ?_);refine goesL_ (some 17) rfl rfl Tryd.func25 (by kernel_rfl) rfl #[.slice A1 l1.length c1] rfl am_ ?_;(with_reducible refine (nat_cut_read.calls (l' := y146) (hl' := Ny146.out) k _ _ l1 t145 _ ?side1 ?side2 A11.out).mono ?_);(case side1 => exact ca_ (Kd.V_reads' HO1.out).2.2);(case side2 => exact (Kd.V_reads' HO1.out).2.1);rintro e w' ⟨rfl,⟨nd,rfl⟩⟩;refine ⟨_,rfl,?_⟩;have q19 : (t145 : Int) ≤ ((l1.length : Int) : Int) := od_;obtain ⟨i019,hi019,_,hsz19,_⟩ := info_parts info43;have hroom19 : l1.length ≤ c1 := (Kd.V_reads' HO1.out).2.1;have hC19 : Kd.F (Kd.int .u32) _ _ A1 l1.length l1 := (Kd.V_at (base := w.heap.size) HO1.out).2.2;have hcut19 := cut_to (P := Tryd.prog) 24 43 .i64 Tryd.underlying24 hi019 A1 l1.length c1 t145 od_ q19 hroom19;have hr19 := Kd.F_take (m := (t145 : Int).toNat) hC19 (by omega);have hy19 : y146.length = (t145 : Int).toNat := (by rw [Ny146.out,List.length_take];omega);rw [← Ny146.out] at hr19;rw [← hy19] at hcut19;have HO150 := Aside0.mk (show Kd.V (Kd.int .u32) 43 _ w.heap.size _ (.slice A1 y146.length c1) y146 from Kd.V_mk (by omega) hr19);have HC150 := Aside0.mk (show y146.length ≤ c1 from by omega);clear hr19 hC19 hroom19 hi019 hsz19;have KY19 := Aside0.mk hy19;clear hy19;replace q19 := eq_true q19))
      (try simp only [Act.put,List.setIfInBounds_toArray,List.set_cons_zero,List.set_cons_succ])
      go_cut [0,1] (fun v0 v1 wc => ∃ (kq : Nat) (x0_13 : List Int) (x1_13 : List Int),Aside0 (nat_Add.j0 kq x0_13 x1_13 = some (r1,r2)) ∧ Aside0 (kq ≤ k) ∧ Aside0 (Kd.V (Kd.int .u32) 43 wc w.heap.size (fun k_ => ((P0_ k_ ∨ P1_ k_) ∨ w.heap.size ≤ k_)) v0 x0_13) ∧ Aside0 (Kd.V (Kd.int .u32) 43 wc w.heap.size (fun k_ => ((P0_ k_ ∨ P1_ k_) ∨ w.heap.size ≤ k_)) v1 x1_13) ∧ Aside0 (Below w.heap.size w wc))
      case first =>
       have H := HC14.out
       clear HC14
       by_cases c20 : (y140.length : Int) < (y146.length : Int)
       ·rw [if_pos c20] at H
        have c20b0 : decide ((y140.length : Int) < (y146.length : Int)) = true := decide_eq_true c20
        have c20b1 : decide (y140.length < y146.length) = true := decide_eq_true (Int.ofNat_lt.mp c20)
        clear c20
        (first | rw [c20b0] | (simp only [i64_w,i32_w];rw [c20b0]) | rw [c20b1] | (simp only [i64_w,i32_w];rw [c20b1]) | skip)
        have H' := Aside0.mk H
        clear H
        go_wp2
        go_meet
        case rel => exact ⟨_,(y146),(y140),H',⟨by first | omega | exact Nat.le_refl _⟩,⟨by (with_reducible repeat (first | apply Kd.V_alloc | apply Kd.V_drewN | apply Kd.V_drew));exact Kd.V_mono HO150.out (fun _ hk => hk.1)⟩,⟨by (with_reducible repeat (first | apply Kd.V_alloc | apply Kd.V_drewN | apply Kd.V_drew));exact Kd.V_mono HO144.out (fun _ hk => hk.1)⟩,⟨by repeat (first | (with_reducible first | exact HB.out | apply below_alloc | apply pw_below_drewN | apply below_drew1) | exact HB.out)⟩⟩
       ·rw [if_neg c20] at H
        have c20b0 : decide ((y140.length : Int) < (y146.length : Int)) = false := decide_eq_false c20
        have c20b1 : decide (y140.length < y146.length) = false := decide_eq_false (fun h => c20 (Int.ofNat_lt.mpr h))
        clear c20
        (first | rw [c20b0] | (simp only [i64_w,i32_w];rw [c20b0]) | rw [c20b1] | (simp only [i64_w,i32_w];rw [c20b1]) | skip)
        have H' := Aside0.mk H
        clear H
        go_wp2
        go_meet
        case rel => exact ⟨_,(y140),(y146),H',⟨by first | omega | exact Nat.le_refl _⟩,⟨by (with_reducible repeat (first | apply Kd.V_alloc | apply Kd.V_drewN | apply Kd.V_drew));exact Kd.V_mono HO144.out (fun _ hk => hk.1)⟩,⟨by (with_reducible repeat (first | apply Kd.V_alloc | apply Kd.V_drewN | apply Kd.V_drew));exact Kd.V_mono HO150.out (fun _ hk => hk.1)⟩,⟨by repeat (first | (with_reducible first | exact HB.out | apply below_alloc | apply pw_below_drewN | apply below_drew1) | exact HB.out)⟩⟩
      case rest =>
       clear HC14
       try clear c1
       try clear q1
       try clear c2
       try clear p2
       try clear c4
       try clear c8
       try clear c9
       try clear c9b0
       try clear c9b1
       try clear c10
       try clear c10b0
       try clear c10b1
       try clear c12
       try clear c12b0
       try clear c12b1
       try clear c13
       try clear c13b0
       try clear c13b1
       try clear q18
       try clear q19
       try clear c20
       try clear c20b0
       try clear c20b1
       try clear q18
       try clear q19
       obtain ⟨kq,x0_13,x1_13,HA,HJ13,HO_0,HO_1,HB⟩ := hcut
       cases kq with
       | zero => exact absurd HA.out (by simp [nat_Add.j0])
       | succ kj13 =>
        have H := HA.out
        clear HA
        simp only [nat_Add.j0] at H
        obtain ⟨ji21,hji21⟩ : ∃ j_ : Int,(wrap64 ((x0_13.length : Int) + 1)) = j_ := ⟨_,rfl⟩
        replace H : (if 0 ≤ (ji21) then (if (ji21 : Int).toNat ≤ 70368744177664 then (nat_Add.l0 kj13 x0_13 x1_13 (List.replicate (ji21 : Int).toNat 0) 0 (x0_13.length : Int) 0) else (none)) else (none)) = some (r1,r2) := by first | (rw [hji21] at H;exact H) | (simp only [hji21] at H ⊢;exact H)
        have hji21w : (IntKind.i64.wrap ((x0_13.length : Int) + 1)) = ji21 := (i64_w _).trans hji21
        by_cases c22 : 0 ≤ (ji21)
        ·rw [if_pos c22] at H
         have c22b0 := eq_true c22
         have c22b1 : decide (0 ≤ (ji21)) = true := decide_eq_true c22
         clear c22
         by_cases c23 : (ji21 : Int).toNat ≤ 70368744177664
         ·rw [if_pos c23] at H
          have c23b0 := eq_true c23
          have c23b1 : decide ((ji21 : Int).toNat ≤ 70368744177664) = true := decide_eq_true c23
          clear c23
          obtain ⟨y151,hy151⟩ : ∃ y_ : List Int,y_ = (List.replicate (ji21 : Int).toNat 0) := ⟨_,rfl⟩
          replace H : (nat_Add.l0 kj13 x0_13 x1_13 y151 0 (x0_13.length : Int) 0) = some (r1,r2) := by first | (rw [hy151];with_reducible exact H) | (have H2_ := (Option.bind_some _ _).symm.trans H;rw [hy151];with_reducible exact H2_) | (have H2_ := (Option.bind_some _ _).symm.trans H;with_reducible exact H2_) | with_reducible exact H | (rw [hy151];exact H) | exact H
          have Ny151 := Aside0.mk hy151
          clear hy151
          have H' := Aside0.mk H
          clear H
          obtain ⟨Ao24,co24,eo24⟩ := Kd.V_slice HO_0.out
          subst eo24
          go_wp2_with (first | ((with_reducible refine gate_dst (N := 28) rfl ?_);refine Kd.R_make (Kd.int .u32) _ 43 rfl (N := 28) rfl 24 _ _ rfl ji21 rfl rfl Tryd.underlying24 (.int .u32 0) 4 info43 rfl (by decide) (by omega) 0 (ok := fun _ => True) (okp := fun _ => True) rfl (fun _ hk => hk) trivial od_ (Nat.le_trans (Nat.mul_le_mul_right _ (od_ : ji21.toNat ≤ 70368744177664)) (by omega)) (Below.refl _ _) (Nat.le_refl _) ?_;intro v152 w25 ho26 hb hg_ hnew_;clear hg_ hnew_;(first | rw [← Ny151.out] at ho26 | (simp only [Int.reduceToNat] at ho26;rw [← Ny151.out] at ho26));replace HO_0 := Aside0.mk (Kd.V_elder' (va_ HO_0.out) (Kd.R_base ho26) hb);replace HO_1 := Aside0.mk (Kd.V_elder' (va_ HO_1.out) (Kd.R_base ho26) hb);have HO153 := Aside0.mk (Kd.R_lower (Kd.R_newM (M := fun k_ => (w.heap.size ≤ k_)) ho26 (below_size bl_) (fun k_ h_ => h_)) (below_size bl_));replace HB := Aside0.mk (below_step bl_ hb);clear hb ho26))
          go_loopg [7,31] kj13 (fun kq v7 v31 w' => ∃ (x6_2 : List Int) (x7_2 : Int) (x31_2 : Int),v7 = .int .u32 x7_2 ∧ v31 = .int .i64 x31_2 ∧ Aside0 (nat_Add.l0 kq x0_13 x1_13 x6_2 x7_2 (x0_13.length : Int) x31_2 = some (r1,r2)) ∧ Aside0 (kq ≤ kj13) ∧ Aside0 (Kd.V (Kd.int .u32) 43 w' w.heap.size (fun k_ => ((P0_ k_ ∨ P1_ k_) ∨ w.heap.size ≤ k_) ∧ some k_ ≠ (v152 : Value).ownBlock) (.slice Ao24 x0_13.length co24) x0_13) ∧ Aside0 (Kd.V (Kd.int .u32) 43 w' w.heap.size (fun k_ => ((P0_ k_ ∨ P1_ k_) ∨ w.heap.size ≤ k_) ∧ some k_ ≠ (v152 : Value).ownBlock) u1 x1_13) ∧ Aside0 (Kd.R (Kd.int .u32) 43 w' w.heap.size (fun k_ => (w.heap.size ≤ k_)) v152 x6_2) ∧ Aside0 (Below w.heap.size w w'))
          case atStart => exact ⟨(y151),(0),(0),(by first | rfl | (simp;done) | (simp [*];done)),(by first | rfl | (simp;done) | (simp [*];done)),H',⟨Nat.le_refl _⟩,⟨by (with_reducible repeat (first | apply Kd.V_alloc | apply Kd.V_drewN | apply Kd.V_drew));exact HO_0.out⟩,⟨by (with_reducible repeat (first | apply Kd.V_alloc | apply Kd.V_drewN | apply Kd.V_drew));exact HO_1.out⟩,⟨by (with_reducible repeat (first | apply Kd.R_alloc | apply Kd.R_drewN | apply Kd.R_drew));exact Kd.R_mono HO153.out (fun _ hk => hk.1)⟩,⟨by repeat (first | (with_reducible first | exact HB.out | apply below_alloc | apply pw_below_drewN | apply below_drew1) | exact HB.out)⟩⟩
          case round =>
           clear H'
           try clear c1
           try clear q1
           try clear c2
           try clear p2
           try clear c4
           try clear p6
           try clear c8
           try clear c9
           try clear c9b0
           try clear c9b1
           try clear c10
           try clear c10b0
           try clear c10b1
           try clear c12
           try clear c12b0
           try clear c12b1
           try clear c13
           try clear c13b0
           try clear c13b1
           try clear q18
           try clear q19
           try clear c20
           try clear c20b0
           try clear c20b1
           try clear c22
           try clear c22b0
           try clear c22b1
           try clear c23
           try clear c23b0
           try clear c23b1
           try clear c24
           try clear c25
           try clear p2
           try clear q1
           try clear q18
           try clear q19
           obtain ⟨x6_2,x7_2,x31_2,rfl,rfl,HA,HK2,HO_0,HO_1,HO_6,HB⟩ := hrel
           cases gk with
           | zero => exact absurd HA.out (by simp [nat_Add.l0])
           | succ k2 =>
            have H := HA.out
            clear HA
            simp only [nat_Add.l0] at H
            by_cases c27 : x31_2 < (x0_13.length : Int)
            ·rw [if_pos c27] at H
             have c27b0 : decide (x31_2 < (x0_13.length : Int)) = true := decide_eq_true c27
             clear c27
             by_cases c28 : x31_2 < (x1_13.length : Int)
             ·rw [if_pos c28] at H
              have c28b0 : decide (x31_2 < (x1_13.length : Int)) = true := decide_eq_true c28
              clear c28
              by_cases c29 : 0 ≤ x31_2
              ·rw [if_pos c29] at H
               have c29b0 : decide (0 ≤ x31_2) = true := decide_eq_true c29
               clear c29
               by_cases c30 : x31_2 < (x0_13.length : Int)
               ·rw [if_pos c30] at H
                have c30b0 : decide (x31_2 < (x0_13.length : Int)) = true := decide_eq_true c30
                clear c30
                replace H := Option.bind_eq_some_iff.mp H
                obtain ⟨⟨t156,t157⟩,A310,H⟩ := H
                replace H : (if x31_2 < (x6_2.length : Int) then (nat_Add.l0 k2 x0_13 x1_13 (x6_2.set (x31_2 : Int).toNat t156) t157 (x0_13.length : Int) (wrap64 (x31_2 + 1))) else (none)) = some (r1,r2) := H
                have A31 := Aside0.mk A310
                clear A310
                by_cases c32 : x31_2 < (x6_2.length : Int)
                ·rw [if_pos c32] at H
                 have c32b0 : decide (x31_2 < (x6_2.length : Int)) = true := decide_eq_true c32
                 clear c32
                 obtain ⟨y158,hy158⟩ : ∃ y_ : List Int,y_ = (x6_2.set (x31_2 : Int).toNat t156) := ⟨_,rfl⟩
                 replace H : (nat_Add.l0 k2 x0_13 x1_13 y158 t157 (x0_13.length : Int) (wrap64 (x31_2 + 1))) = some (r1,r2) := by first | (rw [hy158];with_reducible exact H) | (have H2_ := (Option.bind_some _ _).symm.trans H;rw [hy158];with_reducible exact H2_) | (have H2_ := (Option.bind_some _ _).symm.trans H;with_reducible exact H2_) | with_reducible exact H | (rw [hy158];exact H) | exact H
                 have Ny158 := Aside0.mk hy158
                 clear hy158
                 have H' := Aside0.mk H
                 clear H
                 obtain ⟨Ao34,co34,eo34⟩ := Kd.V_slice HO_1.out
                 subst eo34
                 have p154 : 0 ≤ (x31_2 : Int) := od_
                 have q154 : x31_2 < (x1_13.length : Int) := od_
                 obtain ⟨ad154,e154,hx154_0⟩ := Kd.at_int (Kd.V_reads' HO_1.out).2.2 x31_2 p154 q154
                 cases e154
                 replace p154 := eq_true p154
                 replace q154 := eq_true q154
                 have p155 : 0 ≤ (x31_2 : Int) := od_
                 have q155 : x31_2 < (x0_13.length : Int) := od_
                 obtain ⟨ad155,e155,hx155_0⟩ := Kd.at_int (Kd.V_reads' HO_0.out).2.2 x31_2 p155 q155
                 cases e155
                 replace p155 := eq_true p155
                 replace q155 := eq_true q155
                 go_wp2_with (first | ((with_reducible refine gate_callee (f := 26) rfl ?_);refine goesL_ (some 51) rfl rfl Tryd.func26 (by kernel_rfl) rfl #[.int .u32 (rd x0_13 x31_2),.int .u32 (rd x1_13 x31_2),.int .u32 x7_2] rfl am_ ?_;(with_reducible refine (bits_Add32.calls (rd x0_13 x31_2) (rd x1_13 x31_2) x7_2 t156 t157 _ A31.out).mono ?_);rintro e w' ⟨rfl,⟨nd,rfl⟩⟩;refine ⟨_,rfl,?_⟩;(try (rw [drewN_self wr];generalize hq_ : World.drewN wr _ = wr;have n0_ : Aside0 (Kd.V (Kd.int .u32) 43 wr w.heap.size (fun k_ => ((P0_ k_ ∨ P1_ k_) ∨ w.heap.size ≤ k_) ∧ some k_ ≠ (v152 : Value).ownBlock) (.slice (some ad155) x0_13.length co24) x0_13) := ⟨by rw [← hq_];exact (va_ HO_0.out)⟩;have n1_ : Aside0 (Kd.V (Kd.int .u32) 43 wr w.heap.size (fun k_ => ((P0_ k_ ∨ P1_ k_) ∨ w.heap.size ≤ k_) ∧ some k_ ≠ (v152 : Value).ownBlock) (.slice (some ad154) x1_13.length co34) x1_13) := ⟨by rw [← hq_];exact (va_ HO_1.out)⟩;have n2_ : Aside0 (Kd.R (Kd.int .u32) 43 wr w.heap.size (fun k_ => (w.heap.size ≤ k_)) v152 x6_2) := ⟨by rw [← hq_];exact (ra_ HO_6.out)⟩;have n3_ : Aside0 (Below w.heap.size w wr) := ⟨by rw [← hq_];exact bl_⟩;clear HO_0 HO_1 HO_6 HB hq_;have HO_0 := n0_;have HO_1 := n1_;have HO_6 := n2_;have HB := n3_;clear n0_ n1_ n2_ n3_));have p33 : 0 ≤ (x31_2 : Int) := od_;have q33 : (x31_2 : Int) < ((x6_2.length : Int) : Int) := od_;obtain ⟨go33,co33,eo33,gb33,gl33,cl33,HG33⟩ := Kd.R_form HO_6.out (by omega);(first | cases eo33 | (injection eo33 with ea_ en_ ec_;(first | subst ea_ | (injection ea_ with ea_;subst ea_));subst ec_;clear en_));have GB33 := Aside0.mk gb33;have GG33 := Aside0.mk HG33;clear gb33 gl33 HG33;obtain ⟨hx33_0,hf33_0⟩ := Kd.R_celln 0 HO_6.out (x31_2 : Int) p33 q33;replace p33 := eq_true p33;replace q33 := eq_true q33;obtain ⟨hy35_,hz35_⟩ := Kd.R_celln 0 HO_6.out (x31_2 : Int) od_ od_;have HP35 := Kd.R_putg HO_6.out (x31_2 : Int) t156) | ((with_reducible refine gate_store (t := 43) (p := 54) rfl ?_);refine store_event (t := 43) (p := 54) (v := ?vo_w36) (w1 := (wr.setCell ⟨go33,(x31_2 : Int).toNat,none⟩ (.int .u32 t156))) ?hg ?ho ?hn ?hr ?_;(case ho => rfl);(case hg => rfl);(case hn => rfl);(case hr => first | (go_simp;done) | (go_simp;rfl));intro w36 hw;have hg : wr.grownBy w36 (some go33) := (by rw [hw];exact HP35.2);have hp_ : Kd.R (Kd.int .u32) 43 w36 w.heap.size (fun k_ => (w.heap.size ≤ k_)) (.slice (some ⟨go33,0,none⟩) x6_2.length co33) y158 := (by rw [hw,Ny158.out];exact HP35.1);clear HP35;replace HO_0 := Aside0.mk (Kd.V_afterv (v := (.slice (some ⟨go33,0,none⟩) x6_2.length co33)) (v1 := (.slice (some ⟨go33,0,none⟩) x6_2.length co33)) (ok := (fun k_ => ((P0_ k_ ∨ P1_ k_) ∨ w.heap.size ≤ k_))) (va_ HO_0.out) hg (.inl rfl));replace HO_1 := Aside0.mk (Kd.V_afterv (v := (.slice (some ⟨go33,0,none⟩) x6_2.length co33)) (v1 := (.slice (some ⟨go33,0,none⟩) x6_2.length co33)) (ok := (fun k_ => ((P0_ k_ ∨ P1_ k_) ∨ w.heap.size ≤ k_))) (va_ HO_1.out) hg (.inl rfl));replace HO_6 := Aside0.mk (hp_);replace HB := Aside0.mk ((by rw [hw];exact below_set (HB.out) GB33.out : Below w.heap.size w w36));clear hg hw hp_))
                 go_roundg k2
                 case measure => have := HJ13.out;have := HK2.out;omega
                 case rel => exact ⟨(y158),(t157),(wrap64 (x31_2 + 1)),(by first | rfl | (simp;done) | (simp [*];done)),(by first | rfl | (simp;done) | (simp [*];done)),(by first | exact H' | (rw [hji21];exact H')),⟨by have := HJ13.out;have := HK2.out;omega⟩,⟨by (with_reducible repeat (first | apply Kd.V_alloc | apply Kd.V_drewN | apply Kd.V_drew));exact HO_0.out⟩,⟨by (with_reducible repeat (first | apply Kd.V_alloc | apply Kd.V_drewN | apply Kd.V_drew));exact HO_1.out⟩,⟨by (with_reducible repeat (first | apply Kd.R_alloc | apply Kd.R_drewN | apply Kd.R_drew));exact HO_6.out⟩,⟨by repeat (first | (with_reducible first | exact HB.out | apply below_alloc | apply pw_below_drewN | apply below_drew1) | exact HB.out)⟩⟩
                ·rw [if_neg c32] at H
                 exact absurd H (by simp)
               ·rw [if_neg c30] at H
                exact absurd H (by simp)
              ·rw [if_neg c29] at H
               exact absurd H (by simp)
             ·rw [if_neg c28] at H
              have c28b0 : decide (x31_2 < (x1_13.length : Int)) = false := decide_eq_false c28
              clear c28
              by_cases c37 : 0 ≤ x31_2
              ·rw [if_pos c37] at H
               have c37b0 : decide (0 ≤ x31_2) = true := decide_eq_true c37
               clear c37
               by_cases c38 : x31_2 < (x0_13.length : Int)
               ·rw [if_pos c38] at H
                have c38b0 : decide (x31_2 < (x0_13.length : Int)) = true := decide_eq_true c38
                clear c38
                replace H := Option.bind_eq_some_iff.mp H
                obtain ⟨⟨t160,t161⟩,A390,H⟩ := H
                replace H : (if x31_2 < (x6_2.length : Int) then (nat_Add.l0 k2 x0_13 x1_13 (x6_2.set (x31_2 : Int).toNat t160) t161 (x0_13.length : Int) (wrap64 (x31_2 + 1))) else (none)) = some (r1,r2) := H
                have A39 := Aside0.mk A390
                clear A390
                by_cases c40 : x31_2 < (x6_2.length : Int)
                ·rw [if_pos c40] at H
                 have c40b0 : decide (x31_2 < (x6_2.length : Int)) = true := decide_eq_true c40
                 clear c40
                 obtain ⟨y162,hy162⟩ : ∃ y_ : List Int,y_ = (x6_2.set (x31_2 : Int).toNat t160) := ⟨_,rfl⟩
                 replace H : (nat_Add.l0 k2 x0_13 x1_13 y162 t161 (x0_13.length : Int) (wrap64 (x31_2 + 1))) = some (r1,r2) := by first | (rw [hy162];with_reducible exact H) | (have H2_ := (Option.bind_some _ _).symm.trans H;rw [hy162];with_reducible exact H2_) | (have H2_ := (Option.bind_some _ _).symm.trans H;with_reducible exact H2_) | with_reducible exact H | (rw [hy162];exact H) | exact H
                 have Ny162 := Aside0.mk hy162
                 clear hy162
                 have H' := Aside0.mk H
                 clear H
                 obtain ⟨Ao42,co42,eo42⟩ := Kd.V_slice HO_1.out
                 subst eo42
                 have p159 : 0 ≤ (x31_2 : Int) := od_
                 have q159 : x31_2 < (x0_13.length : Int) := od_
                 obtain ⟨ad159,e159,hx159_0⟩ := Kd.at_int (Kd.V_reads' HO_0.out).2.2 x31_2 p159 q159
                 cases e159
                 replace p159 := eq_true p159
                 replace q159 := eq_true q159
                 go_wp2_with (first | ((with_reducible refine gate_callee (f := 26) rfl ?_);refine goesL_ (some 51) rfl rfl Tryd.func26 (by kernel_rfl) rfl #[.int .u32 (rd x0_13 x31_2),.int .u32 0,.int .u32 x7_2] rfl am_ ?_;(with_reducible refine (bits_Add32.calls (rd x0_13 x31_2) 0 x7_2 t160 t161 _ A39.out).mono ?_);rintro e w' ⟨rfl,⟨nd,rfl⟩⟩;refine ⟨_,rfl,?_⟩;(try (rw [drewN_self wr];generalize hq_ : World.drewN wr _ = wr;have n0_ : Aside0 (Kd.V (Kd.int .u32) 43 wr w.heap.size (fun k_ => ((P0_ k_ ∨ P1_ k_) ∨ w.heap.size ≤ k_) ∧ some k_ ≠ (v152 : Value).ownBlock) (.slice (some ad159) x0_13.length co24) x0_13) := ⟨by rw [← hq_];exact (va_ HO_0.out)⟩;have n1_ : Aside0 (Kd.V (Kd.int .u32) 43 wr w.heap.size (fun k_ => ((P0_ k_ ∨ P1_ k_) ∨ w.heap.size ≤ k_) ∧ some k_ ≠ (v152 : Value).ownBlock) (.slice Ao42 x1_13.length co42) x1_13) := ⟨by rw [← hq_];exact (va_ HO_1.out)⟩;have n2_ : Aside0 (Kd.R (Kd.int .u32) 43 wr w.heap.size (fun k_ => (w.heap.size ≤ k_)) v152 x6_2) := ⟨by rw [← hq_];exact (ra_ HO_6.out)⟩;have n3_ : Aside0 (Below w.heap.size w wr) := ⟨by rw [← hq_];exact bl_⟩;clear HO_0 HO_1 HO_6 HB hq_;have HO_0 := n0_;have HO_1 := n1_;have HO_6 := n2_;have HB := n3_;clear n0_ n1_ n2_ n3_));have p41 : 0 ≤ (x31_2 : Int) := od_;have q41 : (x31_2 : Int) < ((x6_2.length : Int) : Int) := od_;obtain ⟨go41,co41,eo41,gb41,gl41,cl41,HG41⟩ := Kd.R_form HO_6.out (by omega);(first | cases eo41 | (injection eo41 with ea_ en_ ec_;(first | subst ea_ | (injection ea_ with ea_;subst ea_));subst ec_;clear en_));have GB41 := Aside0.mk gb41;have GG41 := Aside0.mk HG41;clear gb41 gl41 HG41;obtain ⟨hx41_0,hf41_0⟩ := Kd.R_celln 0 HO_6.out (x31_2 : Int) p41 q41;replace p41 := eq_true p41;replace q41 := eq_true q41;obtain ⟨hy43_,hz43_⟩ := Kd.R_celln 0 HO_6.out (x31_2 : Int) od_ od_;have HP43 := Kd.R_putg HO_6.out (x31_2 : Int) t160) | ((with_reducible refine gate_store (t := 43) (p := 54) rfl ?_);refine store_event (t := 43) (p := 54) (v := ?vo_w44) (w1 := (wr.setCell ⟨go41,(x31_2 : Int).toNat,none⟩ (.int .u32 t160))) ?hg ?ho ?hn ?hr ?_;(case ho => rfl);(case hg => rfl);(case hn => rfl);(case hr => first | (go_simp;done) | (go_simp;rfl));intro w44 hw;have hg : wr.grownBy w44 (some go41) := (by rw [hw];exact HP43.2);have hp_ : Kd.R (Kd.int .u32) 43 w44 w.heap.size (fun k_ => (w.heap.size ≤ k_)) (.slice (some ⟨go41,0,none⟩) x6_2.length co41) y162 := (by rw [hw,Ny162.out];exact HP43.1);clear HP43;replace HO_0 := Aside0.mk (Kd.V_afterv (v := (.slice (some ⟨go41,0,none⟩) x6_2.length co41)) (v1 := (.slice (some ⟨go41,0,none⟩) x6_2.length co41)) (ok := (fun k_ => ((P0_ k_ ∨ P1_ k_) ∨ w.heap.size ≤ k_))) (va_ HO_0.out) hg (.inl rfl));replace HO_1 := Aside0.mk (Kd.V_afterv (v := (.slice (some ⟨go41,0,none⟩) x6_2.length co41)) (v1 := (.slice (some ⟨go41,0,none⟩) x6_2.length co41)) (ok := (fun k_ => ((P0_ k_ ∨ P1_ k_) ∨ w.heap.size ≤ k_))) (va_ HO_1.out) hg (.inl rfl));replace HO_6 := Aside0.mk (hp_);replace HB := Aside0.mk ((by rw [hw];exact below_set (HB.out) GB41.out : Below w.heap.size w w44));clear hg hw hp_))
                 go_roundg k2
                 case measure => have := HJ13.out;have := HK2.out;omega
                 case rel => exact ⟨(y162),(t161),(wrap64 (x31_2 + 1)),(by first | rfl | (simp;done) | (simp [*];done)),(by first | rfl | (simp;done) | (simp [*];done)),(by first | exact H' | (rw [hji21];exact H')),⟨by have := HJ13.out;have := HK2.out;omega⟩,⟨by (with_reducible repeat (first | apply Kd.V_alloc | apply Kd.V_drewN | apply Kd.V_drew));exact HO_0.out⟩,⟨by (with_reducible repeat (first | apply Kd.V_alloc | apply Kd.V_drewN | apply Kd.V_drew));exact HO_1.out⟩,⟨by (with_reducible repeat (first | apply Kd.R_alloc | apply Kd.R_drewN | apply Kd.R_drew));exact HO_6.out⟩,⟨by repeat (first | (with_reducible first | exact HB.out | apply below_alloc | apply pw_below_drewN | apply below_drew1) | exact HB.out)⟩⟩
                ·rw [if_neg c40] at H
                 exact absurd H (by simp)
               ·rw [if_neg c38] at H
                exact absurd H (by simp)
              ·rw [if_neg c37] at H
               exact absurd H (by simp)
            ·rw [if_neg c27] at H
             have c27b0 : decide (x31_2 < (x0_13.length : Int)) = false := decide_eq_false c27
             clear c27
             by_cases c45 : 0 ≤ (x0_13.length : Int)
             ·rw [if_pos c45] at H
              have c45b0 : decide (0 ≤ (x0_13.length : Int)) = true := decide_eq_true c45
              have c45b1 : decide (0 ≤ x0_13.length) = true := decide_eq_true (by omega)
              clear c45
              by_cases c46 : (x0_13.length : Int) < (x6_2.length : Int)
              ·rw [if_pos c46] at H
               have c46b0 : decide ((x0_13.length : Int) < (x6_2.length : Int)) = true := decide_eq_true c46
               have c46b1 : decide (x0_13.length < x6_2.length) = true := decide_eq_true (Int.ofNat_lt.mp c46)
               clear c46
               obtain ⟨y163,hy163⟩ : ∃ y_ : List Int,y_ = (x6_2.set ((x0_13.length : Int) : Int).toNat x7_2) := ⟨_,rfl⟩
               replace H : ((nat_fits.f k2 y163).bind fun bt164 => (some (bt164.1,bt164.2))) = some (r1,r2) := by first | (rw [hy163];with_reducible exact H) | (have H2_ := (Option.bind_some _ _).symm.trans H;rw [hy163];with_reducible exact H2_) | (have H2_ := (Option.bind_some _ _).symm.trans H;with_reducible exact H2_) | with_reducible exact H | (rw [hy163];exact H) | exact H
               have Ny163 := Aside0.mk hy163
               clear hy163
               replace H := Option.bind_eq_some_iff.mp H
               obtain ⟨⟨t164,t167⟩,A480,H⟩ := H
               replace H : (some (t164,t167)) = some (r1,r2) := H
               have A48 := Aside0.mk A480
               clear A480
               simp only [Option.some.injEq,Prod.mk.injEq] at H
               obtain ⟨rfl,rfl⟩ := H
               have p47 : 0 ≤ ((x0_13.length : Int) : Int) := od_
               have q47 : ((x0_13.length : Int) : Int) < ((x6_2.length : Int) : Int) := od_
               obtain ⟨go47,co47,eo47,gb47,gl47,cl47,HG47⟩ := Kd.R_form HO_6.out (by omega)
               (first | cases eo47 | (injection eo47 with ea_ en_ ec_;(first | subst ea_ | (injection ea_ with ea_;subst ea_));subst ec_;clear en_))
               have GB47 := Aside0.mk gb47
               have GG47 := Aside0.mk HG47
               clear gb47 gl47 HG47
               obtain ⟨hx47_0,hf47_0⟩ := Kd.R_celln 0 HO_6.out ((x0_13.length : Int) : Int) p47 q47
               (try simp only [Int.toNat_natCast] at hx47_0 hf47_0)
               replace p47 := eq_true p47
               replace q47 := eq_true q47
               have HP49 := Kd.R_putg HO_6.out ((x0_13.length : Int) : Int) x7_2
               (try simp only [Int.toNat_natCast] at HP49)
               go_wp2_with (first | ((with_reducible refine gate_store (t := 43) (p := 60) rfl ?_);refine store_event (t := 43) (p := 60) (v := ?vo_w50) (w1 := (wr.setCell ⟨go47,x0_13.length,none⟩ (.int .u32 x7_2))) ?hg ?ho ?hn ?hr ?_;(case ho => rfl);(case hg => rfl);(case hn => rfl);(case hr => first | (go_simp;done) | (go_simp;rfl));intro w50 hw;have hg : wr.grownBy w50 (some go47) := (by rw [hw];exact HP49.2);have hp_ : Kd.R (Kd.int .u32) 43 w50 w.heap.size (fun k_ => (w.heap.size ≤ k_)) (.slice (some ⟨go47,0,none⟩) x6_2.length co47) y163 := (by rw [hw,Ny163.out];exact HP49.1);clear HP49;replace HO_0 := Aside0.mk (Kd.V_afterv (v := (.slice (some ⟨go47,0,none⟩) x6_2.length co47)) (v1 := (.slice (some ⟨go47,0,none⟩) x6_2.length co47)) (ok := (fun k_ => ((P0_ k_ ∨ P1_ k_) ∨ w.heap.size ≤ k_))) (va_ HO_0.out) hg (.inl rfl));replace HO_1 := Aside0.mk (Kd.V_afterv (v := (.slice (some ⟨go47,0,none⟩) x6_2.length co47)) (v1 := (.slice (some ⟨go47,0,none⟩) x6_2.length co47)) (ok := (fun k_ => ((P0_ k_ ∨ P1_ k_) ∨ w.heap.size ≤ k_))) (va_ HO_1.out) hg (.inl rfl));replace HO_6 := Aside0.mk (hp_);replace HB := Aside0.mk ((by rw [hw];exact below_set (HB.out) GB47.out : Below w.heap.size w w50));clear hg hw hp_) | ((with_reducible refine gate_callee (f := 27) rfl ?_);refine goesL_ (some 62) rfl rfl Tryd.func27 (by kernel_rfl) rfl #[.slice (some ⟨go47,0,none⟩) x6_2.length co47] rfl am_ ?_;(with_reducible refine (nat_fits.calls k2 (fun k_ => some k_ = (.slice (some ⟨go47,0,none⟩) x6_2.length co47 : Value).ownBlock) (.slice (some ⟨go47,0,none⟩) x6_2.length co47) y163 t164 t167 w _ ?side1 ?side2 A48.out).mono ?_);(case side1 => repeat (first | (with_reducible first | exact HB.out | apply below_alloc | apply pw_below_drewN | apply below_drew1) | exact HB.out));(case side2 => exact Kd.R_tight rfl HO_6.out);rintro e w51 ⟨v165,rfl,ho0,hb,hkp⟩;refine ⟨_,rfl,?_⟩;replace HO_0 := Aside0.mk (Kd.V_mono (ok' := fun k_ => ((P0_ k_ ∨ P1_ k_) ∨ w.heap.size ≤ k_) ∧ some k_ ≠ (v165 : Value).ownBlock) (Kd.V_keptB (HO_0.out) hkp (fun k_ hk_ hs_ => (hk_.2) hs_)) (fun k_ hk_ => ⟨hk_.1.1,fun e_ => Or.elim (ho0.1 k_ e_.symm) (fun hs_ => hk_.2.1 hs_) (fun hn_ => Nat.not_le.2 hk_.2.2 hn_)⟩));replace HO_1 := Aside0.mk (Kd.V_mono (ok' := fun k_ => ((P0_ k_ ∨ P1_ k_) ∨ w.heap.size ≤ k_) ∧ some k_ ≠ (v165 : Value).ownBlock) (Kd.V_keptB (HO_1.out) hkp (fun k_ hk_ hs_ => (hk_.2) hs_)) (fun k_ hk_ => ⟨hk_.1.1,fun e_ => Or.elim (ho0.1 k_ e_.symm) (fun hs_ => hk_.2.1 hs_) (fun hn_ => Nat.not_le.2 hk_.2.2 hn_)⟩));have HO166 := Aside0.mk (Kd.R_mono (ok' := fun k_ => (w.heap.size ≤ k_)) ho0 (fun k_ hk_ => Or.elim hk_ (fun hs_ => (HO_6.out.1 k_ (hs_).symm)) (fun hn_ => (Nat.le_trans (below_size bl_) hn_))));replace HB := Aside0.mk (hb);clear HO_6;(try clear hb);(try clear hkp);(try clear ho0)))
               go_ret2
               exact ⟨_,by first | rfl | (simp [errW_none,errW_some] <;> rfl) | (simp only [← hji21];first | rfl | (simp [errW_none,errW_some] <;> rfl)) | (simp [*,errW_none,errW_some] <;> rfl),by (with_reducible repeat (first | apply Kd.R_alloc | apply Kd.R_drewN | apply Kd.R_drew));exact HO166.out,by repeat (first | (with_reducible first | exact HB.out | apply below_alloc | apply pw_below_drewN | apply below_drew1) | exact HB.out)⟩
              ·rw [if_neg c46] at H
               exact absurd H (by simp)
             ·rw [if_neg c45] at H
              exact absurd H (by simp)
         ·rw [if_neg c23] at H
          exact absurd H (by simp)
        ·rw [if_neg c22] at H
         exact absurd H (by simp)
     ·rw [if_neg c13] at H
      exact absurd H (by simp)
    ·rw [if_neg c12] at H
     exact absurd H (by simp)
   ·rw [if_neg c10] at H
    exact absurd H (by simp)
  ·rw [if_neg c9] at H
   exact absurd H (by simp)

/-! ### bits_Sub32: function 28 -/
theorem sub32_top (x y d b : Nat) (hx : x < 4294967296) (hy : y < 4294967296) (hb : b ≤ 1) (hd : d = (x + 8589934592 - y - b) % 4294967296) :
  (((4294967295 ^^^ x) &&& y) ||| ((4294967295 ^^^ (x ^^^ y)) &&& d)) / 2147483648 = if x < y + b then 1 else 0 := by
 have e : ∀ n : Nat,n / 2147483648 = n >>> 31 := fun n => by rw [Nat.shiftRight_eq_div_pow]
 rw [e,Nat.shiftRight_or_distrib,Nat.shiftRight_and_distrib,Nat.shiftRight_and_distrib,Nat.shiftRight_xor_distrib,Nat.shiftRight_xor_distrib,Nat.shiftRight_xor_distrib,← e,← e,← e,← e]
 have h4 : (4294967295 : Nat) / 2147483648 = 1 := rfl
 rw [h4]
 have hp : x / 2147483648 = 0 ∨ x / 2147483648 = 1 := by omega
 have hq : y / 2147483648 = 0 ∨ y / 2147483648 = 1 := by omega
 have hr : d / 2147483648 = 0 ∨ d / 2147483648 = 1 := by omega
 rcases hp with hp | hp <;> rcases hq with hq | hq <;> rcases hr with hr | hr <;> rw [hp,hq,hr] <;> simp <;> omega
theorem sub32_bits (x y b : Int) (hx0 : 0 ≤ x) (hx : x < 4294967296) (hy0 : 0 ≤ y) (hy : y < 4294967296) (hb : b = 0 ∨ b = 1) :
  bits .or .u32 (bits .and .u32 (bits .xor .u32 IntKind.u32.max x) y) (bits .and .u32 (bits .xor .u32 IntKind.u32.max (bits .xor .u32 x y)) ((x - y - b) % 4294967296)) / 2147483648 = if x < y + b then 1 else 0 := by
 obtain ⟨x,rfl⟩ := Int.eq_ofNat_of_zero_le hx0
 obtain ⟨y,rfl⟩ := Int.eq_ofNat_of_zero_le hy0
 obtain ⟨b,rfl⟩ := Int.eq_ofNat_of_zero_le (show 0 ≤ b by omega)
 obtain ⟨d,hd⟩ := Int.eq_ofNat_of_zero_le (show 0 ≤ ((x : Int) - y - b) % 4294967296 by omega)
 rw [hd]
 have hm : (IntKind.u32.max : Int) = ((4294967295 : Nat) : Int) := by decide
 have B : ∀ a c : Nat,a < 4294967296 → c < 4294967296 → bits .and .u32 (a : Int) (c : Int) = ((a &&& c : Nat) : Int) ∧ bits .or .u32 (a : Int) (c : Int) = ((a ||| c : Nat) : Int) ∧ bits .xor .u32 (a : Int) (c : Int) = ((a ^^^ c : Nat) : Int) := by
  intro a c ha hc
  have hk : ∀ n : Int,0 ≤ n → n < 2 ^ 32 → IntKind.u32.wrap n = n := fun n h0 h1 => by rw [IntKind.wrap_u32];omega
  have t := bits_nat .u32 32 (by decide) hk a c (by simpa using ha) (by simpa using hc)
  refine ⟨t.1,t.2,?_⟩
  have ha' : a % 2 ^ IntKind.u32.bits = a := Nat.mod_eq_of_lt ha
  have hc' : c % 2 ^ IntKind.u32.bits = c := Nat.mod_eq_of_lt hc
  have hl : a ^^^ c < 2 ^ 32 := Nat.xor_lt_two_pow (n := 32) ha hc
  simp only [bits,BitVec.ofInt_natCast,BitVec.toNat_xor,BitVec.toNat_ofNat,ha',hc']
  exact hk _ (Int.natCast_nonneg _) (by exact_mod_cast hl)
 have L : ∀ a c : Nat,a < 4294967296 → c < 4294967296 → (a ^^^ c < 4294967296) ∧ (a &&& c) < 4294967296 ∧ (a ||| c) < 4294967296 := fun a c ha hc =>
  ⟨Nat.xor_lt_two_pow (n := 32) ha hc,Nat.and_lt_two_pow a (n := 32) hc,Nat.or_lt_two_pow (n := 32) ha hc⟩
 have hx' : x < 4294967296 := by omega
 have hy' : y < 4294967296 := by omega
 have hd' : d < 4294967296 := by omega
 have h1 := L x y hx' hy'
 have hmx : 4294967295 < 4294967296 := by decide
 rw [hm,(B _ _ hmx hx').2.2,(B _ _ (L _ _ hmx hx').1 hy').1,(B x y hx' hy').2.2,(B _ _ hmx h1.1).2.2,(B _ _ (L _ _ hmx h1.1).1 hd').1,(B _ _ (L _ _ (L _ _ hmx hx').1 hy').2.1 (L _ _ (L _ _ hmx h1.1).1 hd').2.1).2.1]
 have := sub32_top x y d b hx' hy' (by omega) (by omega)
 rw [show ((2147483648 : Int)) = ((2147483648 : Nat) : Int) from rfl,← Int.natCast_ediv,this]
 split <;> split <;> omega
def bits_Sub32.f (x y b : Int) : Option (Int × Int) :=
 if 0 ≤ x ∧ x < 4294967296 ∧ 0 ≤ y ∧ y < 4294967296 ∧ (b = 0 ∨ b = 1) then some ((x - y - b) % 4294967296,if x < y + b then 1 else 0) else none
theorem bits_Sub32.calls (a0 a1 a2 : Int) (r1 r2 : Int) (w : World) (h : bits_Sub32.f a0 a1 a2 = some (r1,r2)) :
  Calls Tryd.prog 28 #[.int .u32 a0,.int .u32 a1,.int .u32 a2] w fun e w' => e = .returned (.tuple #[.int .u32 r1,.int .u32 r2]) ∧ Drawn0 w w' := by
 unfold bits_Sub32.f at h
 split at h
 ·rename_i hc
  obtain ⟨hr1,hr2⟩ := Prod.mk.inj (Option.some.inj h)
  have E1 := Aside0.mk hr1
  have E2 := Aside0.mk ((sub32_bits a0 a1 a2 hc.1 hc.2.1 hc.2.2.1 hc.2.2.2.1 hc.2.2.2.2).trans hr2)
  clear hr1 hr2 hc h
  go_enter Tryd.func28,Tryd.ntmps28
  go_wp2
  go_ret2
  refine ⟨?_,by repeat (first | exact Drawn0.refl _ | apply Drawn0.step)⟩
  have e1 := E1.out
  have e2 := E2.out
  rw [e1] at e2
  simp [e1,e2]
 ·cases h

end Go.Proofs.YtfcenlhaepckoaaDoor.P
