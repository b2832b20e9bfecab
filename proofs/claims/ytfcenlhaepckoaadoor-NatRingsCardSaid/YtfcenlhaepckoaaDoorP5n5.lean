-- Printed by a program of this session (wip/tools) over the kit's print: not trusted, Lean checks it.
import Derived.Test.YtfcenlhaepckoaaDoorP0n5
import Derived.Test.YtfcenlhaepckoaaDoorProg
import Derived.Test.YtfcenlhaepckoaaDoorElibn5
import Derived.Test.YtfcenlhaepckoaaDoorSqn5
import Derived.Test.YtfcenlhaepckoaaDoorP1n5
import Derived.Test.YtfcenlhaepckoaaDoorLibsn5
namespace Go.Proofs.YtfcenlhaepckoaaDoor.P
set_option linter.all false
open Go.RowKit Go.Proofs.YtfcenlhaepckoaaDoorW.PrintWords Go.Proofs.YtfcenlhaepckoaaDoorW.PrintLast Go.Proofs.YtfcenlhaepckoaaDoorW.PrintMore
attribute [local go_sem] max2_int min2_int max_two min_two max_three min_three max_four min_four   -- for this text's walks alone
attribute [local go_sem] cell_after
set_option linter.unusedVariables false
set_option linter.unusedSimpArgs false

/-! ### nat_Shr: function 18 -/
mutual
def nat_Shr.j0 : Nat → Bool → List Int → Int → Bool → Option (List Int × Bool × Int)
 | 0,_,_,_,_ => none
 | k + 1,x8,x9,x10,x52 => if x52 = true then (some (([] : List Int),x8,0)) else (if x8 = true then (nat_Shr.j1 k true x9 x10) else (if 0 < (x9.length : Int) then (if 0 ≤ x10 then (nat_Shr.j1 k ((Go.bits .and .u32 (rd x9 0) (((shl .u32 1 x10) - 1) % 4294967296)) != 0) x9 x10) else (none)) else (none)))
def nat_Shr.j1 : Nat → Bool → List Int → Int → Option (List Int × Bool × Int)
 | 0,_,_,_ => none
 | k + 1,x8,x9,x10 => nat_Shr.l0 k x8 x9 x10 (x9.length : Int) 0
def nat_Shr.l0 : Nat → Bool → List Int → Int → Int → Int → Option (List Int × Bool × Int)
 | 0,_,_,_,_,_ => none
 | k + 1,x8,x9,x10,x66,x67 => if x67 < x66 then (if 0 ≤ x67 then (if x67 < (x9.length : Int) then (if (wrap64 (x67 + 1)) < (x9.length : Int) then (if 0 ≤ (wrap64 (x67 + 1)) then (if 0 ≤ x10 then (nat_Shr.l0 k x8 (x9.set (x67 : Int).toNat ((shr .u64 (Go.bits .or .u64 (IntKind.u64.wrap (rd x9 x67)) (IntKind.u64.wrap ((IntKind.u64.wrap (rd x9 (wrap64 (x67 + 1)))) * 4294967296))) x10) % 4294967296)) x10 x66 (wrap64 (x67 + 1))) else (none)) else (none)) else (if 0 ≤ x10 then (nat_Shr.l0 k x8 (x9.set (x67 : Int).toNat ((shr .u64 (IntKind.u64.wrap (rd x9 x67)) x10) % 4294967296)) x10 x66 (wrap64 (x67 + 1))) else (none))) else (none)) else (none)) else ((nat_right.f k x9).bind fun t278 => (if 0 ≤ t278 then (if t278 ≤ (x9.length : Int) then (some ((x9.take (t278 : Int).toNat),x8,0)) else (none)) else (none)))
end
def nat_Shr.f (k : Nat) (l0 : List Int) (a1 : Int) : Option (List Int × Bool × Int) := if a1 < 0 then (some (([] : List Int),false,1)) else ((nat_over.f k (([l0] : List (List Int)))).bind fun t251 => (if t251 = true then (some (([] : List Int),false,2)) else ((nat_right.f k l0).bind fun t252 => (if 0 ≤ t252 then (if t252 ≤ (l0.length : Int) then ((some (l0.take (t252 : Int).toNat : List Int)).bind fun y253 => (if 0 ≤ (mn (wrap64 (Int.tdiv a1 32)) (y253.length : Int)) then (if (mn (wrap64 (Int.tdiv a1 32)) (y253.length : Int)) ≤ (y253.length : Int) then ((nat_right.f k (y253.take ((mn (wrap64 (Int.tdiv a1 32)) (y253.length : Int)) : Int).toNat)).bind fun t263 => (if 0 ≤ (wrap64 ((y253.length : Int) - (mn (wrap64 (Int.tdiv a1 32)) (y253.length : Int)))) then (if (wrap64 ((y253.length : Int) - (mn (wrap64 (Int.tdiv a1 32)) (y253.length : Int))) : Int).toNat ≤ 70368744177664 then ((some (List.replicate (wrap64 ((y253.length : Int) - (mn (wrap64 (Int.tdiv a1 32)) (y253.length : Int))) : Int).toNat 0 : List Int)).bind fun y264 => ((some (overlay_ y264 (y253.drop ((mn (wrap64 (Int.tdiv a1 32)) (y253.length : Int)) : Int).toNat) : List Int)).bind fun y272 => (if (y264.length : Int) = 0 then (nat_Shr.j0 k (decide (t263 > 0)) y272 (Int.tmod a1 32) true) else (nat_Shr.j0 k (decide (t263 > 0)) y272 (Int.tmod a1 32) (decide ((mn (wrap64 (Int.tdiv a1 32)) (y253.length : Int)) < (wrap64 (Int.tdiv a1 32)))))))) else (none)) else (none))) else (none)) else (none))) else (none)) else (none)))))
set_option maxHeartbeats 8000000 in
set_option maxRecDepth 100000 in
theorem nat_Shr.calls (k : Nat) (P0_ : Nat → Prop) (A0 : Option Addr) (c0 : Nat) (l0 : List Int) (a1 : Int) (r1 : List Int) (r2 : Bool) (r3 : Int) (w : World) (hs0 : Kd.V (Kd.int .u32) 43 w w.heap.size (fun k_ => P0_ k_) (.slice A0 l0.length c0) l0) (h : nat_Shr.f k l0 a1 = some (r1,r2,r3)) :
  Calls Tryd.prog 18 #[.slice A0 l0.length c0,.int .i64 a1] w fun e w' => ∃ v0_ : Value,e = .returned (.tuple #[v0_,.bool r2,.int .i64 r3]) ∧ Kd.R (Kd.int .u32) 43 w' w.heap.size (fun k_ => (w.heap.size ≤ k_)) v0_ r1 ∧ Below w.heap.size w w' := by
 have HO0 := Aside0.mk (show Kd.V (Kd.int .u32) 43 w w.heap.size (fun k_ => (P0_ k_ ∨ w.heap.size ≤ k_)) (.slice A0 l0.length c0) l0 from Kd.V_mono hs0 (fun k_ hk => .inl hk))
 have HB := Aside0.mk (Below.refl w.heap.size w)
 have H : (if a1 < 0 then (some (([] : List Int),false,1)) else ((nat_over.f k (([l0] : List (List Int)))).bind fun t251 => (if t251 = true then (some (([] : List Int),false,2)) else ((nat_right.f k l0).bind fun t252 => (if 0 ≤ t252 then (if t252 ≤ (l0.length : Int) then ((some (l0.take (t252 : Int).toNat : List Int)).bind fun y253 => (if 0 ≤ (mn (wrap64 (Int.tdiv a1 32)) (y253.length : Int)) then (if (mn (wrap64 (Int.tdiv a1 32)) (y253.length : Int)) ≤ (y253.length : Int) then ((nat_right.f k (y253.take ((mn (wrap64 (Int.tdiv a1 32)) (y253.length : Int)) : Int).toNat)).bind fun t263 => (if 0 ≤ (wrap64 ((y253.length : Int) - (mn (wrap64 (Int.tdiv a1 32)) (y253.length : Int)))) then (if (wrap64 ((y253.length : Int) - (mn (wrap64 (Int.tdiv a1 32)) (y253.length : Int))) : Int).toNat ≤ 70368744177664 then ((some (List.replicate (wrap64 ((y253.length : Int) - (mn (wrap64 (Int.tdiv a1 32)) (y253.length : Int))) : Int).toNat 0 : List Int)).bind fun y264 => ((some (overlay_ y264 (y253.drop ((mn (wrap64 (Int.tdiv a1 32)) (y253.length : Int)) : Int).toNat) : List Int)).bind fun y272 => (if (y264.length : Int) = 0 then (nat_Shr.j0 k (decide (t263 > 0)) y272 (Int.tmod a1 32) true) else (nat_Shr.j0 k (decide (t263 > 0)) y272 (Int.tmod a1 32) (decide ((mn (wrap64 (Int.tdiv a1 32)) (y253.length : Int)) < (wrap64 (Int.tdiv a1 32)))))))) else (none)) else (none))) else (none)) else (none))) else (none)) else (none)))))) = some (r1,r2,r3) := h
 clear h
 by_cases c3 : a1 < 0
 ·rw [if_pos c3] at H
  have c3b0 : decide (a1 < 0) = true := decide_eq_true c3
  clear c3
  simp only [Option.some.injEq,Prod.mk.injEq] at H
  obtain ⟨rfl,rfl,rfl⟩ := H
  go_enter Tryd.func18,Tryd.ntmps18
  go_wp2
  repeat (go_quiet (fail);try go_wp2)
  go_ret3
  exact ⟨_,by first | rfl | (simp [errW_none,errW_some] <;> rfl) | (simp [*,errW_none,errW_some] <;> rfl),by first | exact Kd.R_nil _ _ _ _ _ | exact Kd.N_nil _ _ _ _ _ | exact Kd.V_nil _ _ _ _ _ | exact Kd.Q_nil _ _ _ _ _ | exact Kd.S_nil _ _ _ _ _,by repeat (first | (with_reducible first | exact HB.out | apply below_alloc | apply pw_below_drewN | apply below_drew1) | exact HB.out)⟩
 ·rw [if_neg c3] at H
  have c3b0 : decide (a1 < 0) = false := decide_eq_false c3
  clear c3
  obtain ⟨y248,hy248⟩ : ∃ y_ : List (List Int),y_ = (([l0] : List (List Int))) := ⟨_,rfl⟩
  replace H : ((nat_over.f k y248).bind fun t251 => (if t251 = true then (some (([] : List Int),false,2)) else ((nat_right.f k l0).bind fun t252 => (if 0 ≤ t252 then (if t252 ≤ (l0.length : Int) then ((some (l0.take (t252 : Int).toNat : List Int)).bind fun y253 => (if 0 ≤ (mn (wrap64 (Int.tdiv a1 32)) (y253.length : Int)) then (if (mn (wrap64 (Int.tdiv a1 32)) (y253.length : Int)) ≤ (y253.length : Int) then ((nat_right.f k (y253.take ((mn (wrap64 (Int.tdiv a1 32)) (y253.length : Int)) : Int).toNat)).bind fun t263 => (if 0 ≤ (wrap64 ((y253.length : Int) - (mn (wrap64 (Int.tdiv a1 32)) (y253.length : Int)))) then (if (wrap64 ((y253.length : Int) - (mn (wrap64 (Int.tdiv a1 32)) (y253.length : Int))) : Int).toNat ≤ 70368744177664 then ((some (List.replicate (wrap64 ((y253.length : Int) - (mn (wrap64 (Int.tdiv a1 32)) (y253.length : Int))) : Int).toNat 0 : List Int)).bind fun y264 => ((some (overlay_ y264 (y253.drop ((mn (wrap64 (Int.tdiv a1 32)) (y253.length : Int)) : Int).toNat) : List Int)).bind fun y272 => (if (y264.length : Int) = 0 then (nat_Shr.j0 k (decide (t263 > 0)) y272 (Int.tmod a1 32) true) else (nat_Shr.j0 k (decide (t263 > 0)) y272 (Int.tmod a1 32) (decide ((mn (wrap64 (Int.tdiv a1 32)) (y253.length : Int)) < (wrap64 (Int.tdiv a1 32)))))))) else (none)) else (none))) else (none)) else (none))) else (none)) else (none))))) = some (r1,r2,r3) := by first | (rw [hy248];with_reducible exact H) | (have H2_ := (Option.bind_some _ _).symm.trans H;rw [hy248];with_reducible exact H2_) | (have H2_ := (Option.bind_some _ _).symm.trans H;with_reducible exact H2_) | with_reducible exact H | (rw [hy248];exact H) | exact H
  have Ny248 := Aside0.mk hy248
  clear hy248
  replace H := Option.bind_eq_some_iff.mp H
  obtain ⟨t251,A40,H⟩ := H
  replace H : (if t251 = true then (some (([] : List Int),false,2)) else ((nat_right.f k l0).bind fun t252 => (if 0 ≤ t252 then (if t252 ≤ (l0.length : Int) then ((some (l0.take (t252 : Int).toNat : List Int)).bind fun y253 => (if 0 ≤ (mn (wrap64 (Int.tdiv a1 32)) (y253.length : Int)) then (if (mn (wrap64 (Int.tdiv a1 32)) (y253.length : Int)) ≤ (y253.length : Int) then ((nat_right.f k (y253.take ((mn (wrap64 (Int.tdiv a1 32)) (y253.length : Int)) : Int).toNat)).bind fun t263 => (if 0 ≤ (wrap64 ((y253.length : Int) - (mn (wrap64 (Int.tdiv a1 32)) (y253.length : Int)))) then (if (wrap64 ((y253.length : Int) - (mn (wrap64 (Int.tdiv a1 32)) (y253.length : Int))) : Int).toNat ≤ 70368744177664 then ((some (List.replicate (wrap64 ((y253.length : Int) - (mn (wrap64 (Int.tdiv a1 32)) (y253.length : Int))) : Int).toNat 0 : List Int)).bind fun y264 => ((some (overlay_ y264 (y253.drop ((mn (wrap64 (Int.tdiv a1 32)) (y253.length : Int)) : Int).toNat) : List Int)).bind fun y272 => (if (y264.length : Int) = 0 then (nat_Shr.j0 k (decide (t263 > 0)) y272 (Int.tmod a1 32) true) else (nat_Shr.j0 k (decide (t263 > 0)) y272 (Int.tmod a1 32) (decide ((mn (wrap64 (Int.tdiv a1 32)) (y253.length : Int)) < (wrap64 (Int.tdiv a1 32)))))))) else (none)) else (none))) else (none)) else (none))) else (none)) else (none)))) = some (r1,r2,r3) := H
  have A4 := Aside0.mk A40
  clear A40
  by_cases c5 : t251 = true
  ·subst c5
   have H1 : (some (([] : List Int),false,2)) = some (r1,r2,r3) := by rw [if_pos rfl] at H;exact H
   clear H
   have H := H1
   clear H1
   simp only [Option.some.injEq,Prod.mk.injEq] at H
   obtain ⟨rfl,rfl,rfl⟩ := H
   go_enter Tryd.func18,Tryd.ntmps18
   go_wp2_with (first | ((with_reducible refine gate_dst (N := 18) rfl ?_);refine Kd.N_lit (Kd.slice 43 (Kd.int .u32)) _ 24 ?hg (N' := 18) ?hd (xs := ([l0] : List (List Int))) (inner := [.slice A0 l0.length c0]) (ok := (fun k_ => (P0_ k_ ∨ w.heap.size ≤ k_))) (okp := (fun k_ => (P0_ k_ ∨ w.heap.size ≤ k_))) ?hr ?hp (fun _ hk => hk) ((show ∀ k_,w.heap.size ≤ k_ → (fun k_ => (P0_ k_ ∨ w.heap.size ≤ k_)) k_ from fun k_ hk => (.inr (Nat.le_trans (below_size bl_) hk))) _ (Nat.le_refl _)) (Below.refl _ _) (Nat.le_refl _) (by simp) ?_;(case hd => rfl);(case hg => rfl);(case hr => first | (go_simp;done) | (go_simp;rfl));(case hp => exact (Reps.one (show Kd.FK (Kd.slice 43 (Kd.int .u32)) _ _ l0 [.slice A0 l0.length c0] from (Kd.FK_slice_mk (Kd.V_reads' (Kd.V_mono (ok' := (fun k_ => (P0_ k_ ∨ w.heap.size ≤ k_))) (HO0.out) (fun k_ hk => hk))).2.1 (Kd.V_F (Kd.V_mono (ok' := (fun k_ => (P0_ k_ ∨ w.heap.size ≤ k_))) (HO0.out) (fun k_ hk => hk))))) (Reps.none _ _)));intro v249 w6 ho7 hb hg_ hnew_;clear hg_ hnew_;(first | rw [← Ny248.out] at ho7 | (simp only [Int.reduceToNat] at ho7;rw [← Ny248.out] at ho7));replace HO0 := Aside0.mk (Kd.V_elder' (va_ HO0.out) (Kd.N_base ho7) hb);have HO250 := Aside0.mk (Kd.N_lower ho7 (below_size bl_));replace HB := Aside0.mk (below_step bl_ hb);clear hb ho7;obtain ⟨Ao8,co8,eo8⟩ := Kd.N_slice HO250.out;subst eo8) | (go_at_call 24;(with_reducible refine (nat_over.calls k _ _ y248 true _ ?side1 ?side2 A4.out).mono ?_);(case side1 => exact ca_ (Kd.N_reads' HO250.out).2.2);(case side2 => exact (Kd.N_reads' HO250.out).2.1);rintro e w' ⟨rfl,⟨nd,rfl⟩⟩;(try first | exact ⟨rfl,_,World.drewN_drewN _ _ _⟩ | exact ⟨rfl,_,Eq.trans (World.drewN_drewN _ _ _) (congrArg (World.drewN _) (Nat.add_assoc _ _ _))⟩)))
   repeat (go_quiet (first | ((with_reducible refine gate_dst (N := 18) rfl ?_);refine Kd.N_lit (Kd.slice 43 (Kd.int .u32)) _ 24 ?hg (N' := 18) ?hd (xs := ([l0] : List (List Int))) (inner := [.slice A0 l0.length c0]) (ok := (fun k_ => (P0_ k_ ∨ w.heap.size ≤ k_))) (okp := (fun k_ => (P0_ k_ ∨ w.heap.size ≤ k_))) ?hr ?hp (fun _ hk => hk) ((show ∀ k_,w.heap.size ≤ k_ → (fun k_ => (P0_ k_ ∨ w.heap.size ≤ k_)) k_ from fun k_ hk => (.inr (Nat.le_trans (below_size bl_) hk))) _ (Nat.le_refl _)) (Below.refl _ _) (Nat.le_refl _) (by simp) ?_;(case hd => rfl);(case hg => rfl);(case hr => first | (go_simp;done) | (go_simp;rfl));(case hp => exact (Reps.one (show Kd.FK (Kd.slice 43 (Kd.int .u32)) _ _ l0 [.slice A0 l0.length c0] from (Kd.FK_slice_mk (Kd.V_reads' (Kd.V_mono (ok' := (fun k_ => (P0_ k_ ∨ w.heap.size ≤ k_))) (HO0.out) (fun k_ hk => hk))).2.1 (Kd.V_F (Kd.V_mono (ok' := (fun k_ => (P0_ k_ ∨ w.heap.size ≤ k_))) (HO0.out) (fun k_ hk => hk))))) (Reps.none _ _)));intro v249 w6 ho7 hb hg_ hnew_;clear hg_ hnew_;(first | rw [← Ny248.out] at ho7 | (simp only [Int.reduceToNat] at ho7;rw [← Ny248.out] at ho7));replace HO0 := Aside0.mk (Kd.V_elder' (va_ HO0.out) (Kd.N_base ho7) hb);have HO250 := Aside0.mk (Kd.N_lower ho7 (below_size bl_));replace HB := Aside0.mk (below_step bl_ hb);clear hb ho7;obtain ⟨Ao8,co8,eo8⟩ := Kd.N_slice HO250.out;subst eo8) | (go_at_call 24;(with_reducible refine (nat_over.calls k _ _ y248 true _ ?side1 ?side2 A4.out).mono ?_);(case side1 => exact ca_ (Kd.N_reads' HO250.out).2.2);(case side2 => exact (Kd.N_reads' HO250.out).2.1);rintro e w' ⟨rfl,⟨nd,rfl⟩⟩;(try first | exact ⟨rfl,_,World.drewN_drewN _ _ _⟩ | exact ⟨rfl,_,Eq.trans (World.drewN_drewN _ _ _) (congrArg (World.drewN _) (Nat.add_assoc _ _ _))⟩)));try go_wp2_with (first | ((with_reducible refine gate_dst (N := 18) rfl ?_);refine Kd.N_lit (Kd.slice 43 (Kd.int .u32)) _ 24 ?hg (N' := 18) ?hd (xs := ([l0] : List (List Int))) (inner := [.slice A0 l0.length c0]) (ok := (fun k_ => (P0_ k_ ∨ w.heap.size ≤ k_))) (okp := (fun k_ => (P0_ k_ ∨ w.heap.size ≤ k_))) ?hr ?hp (fun _ hk => hk) ((show ∀ k_,w.heap.size ≤ k_ → (fun k_ => (P0_ k_ ∨ w.heap.size ≤ k_)) k_ from fun k_ hk => (.inr (Nat.le_trans (below_size bl_) hk))) _ (Nat.le_refl _)) (Below.refl _ _) (Nat.le_refl _) (by simp) ?_;(case hd => rfl);(case hg => rfl);(case hr => first | (go_simp;done) | (go_simp;rfl));(case hp => exact (Reps.one (show Kd.FK (Kd.slice 43 (Kd.int .u32)) _ _ l0 [.slice A0 l0.length c0] from (Kd.FK_slice_mk (Kd.V_reads' (Kd.V_mono (ok' := (fun k_ => (P0_ k_ ∨ w.heap.size ≤ k_))) (HO0.out) (fun k_ hk => hk))).2.1 (Kd.V_F (Kd.V_mono (ok' := (fun k_ => (P0_ k_ ∨ w.heap.size ≤ k_))) (HO0.out) (fun k_ hk => hk))))) (Reps.none _ _)));intro v249 w6 ho7 hb hg_ hnew_;clear hg_ hnew_;(first | rw [← Ny248.out] at ho7 | (simp only [Int.reduceToNat] at ho7;rw [← Ny248.out] at ho7));replace HO0 := Aside0.mk (Kd.V_elder' (va_ HO0.out) (Kd.N_base ho7) hb);have HO250 := Aside0.mk (Kd.N_lower ho7 (below_size bl_));replace HB := Aside0.mk (below_step bl_ hb);clear hb ho7;obtain ⟨Ao8,co8,eo8⟩ := Kd.N_slice HO250.out;subst eo8) | (go_at_call 24;(with_reducible refine (nat_over.calls k _ _ y248 true _ ?side1 ?side2 A4.out).mono ?_);(case side1 => exact ca_ (Kd.N_reads' HO250.out).2.2);(case side2 => exact (Kd.N_reads' HO250.out).2.1);rintro e w' ⟨rfl,⟨nd,rfl⟩⟩;(try first | exact ⟨rfl,_,World.drewN_drewN _ _ _⟩ | exact ⟨rfl,_,Eq.trans (World.drewN_drewN _ _ _) (congrArg (World.drewN _) (Nat.add_assoc _ _ _))⟩))))
   go_ret3
   exact ⟨_,by first | rfl | (simp [errW_none,errW_some] <;> rfl) | (simp [*,errW_none,errW_some] <;> rfl),by first | exact Kd.R_nil _ _ _ _ _ | exact Kd.N_nil _ _ _ _ _ | exact Kd.V_nil _ _ _ _ _ | exact Kd.Q_nil _ _ _ _ _ | exact Kd.S_nil _ _ _ _ _,by repeat (first | (with_reducible first | exact HB.out | apply below_alloc | apply pw_below_drewN | apply below_drew1) | exact HB.out)⟩
  ·replace c5 := Bool.eq_false_iff.mpr c5
   subst c5
   have H1 : ((nat_right.f k l0).bind fun t252 => (if 0 ≤ t252 then (if t252 ≤ (l0.length : Int) then ((some (l0.take (t252 : Int).toNat : List Int)).bind fun y253 => (if 0 ≤ (mn (wrap64 (Int.tdiv a1 32)) (y253.length : Int)) then (if (mn (wrap64 (Int.tdiv a1 32)) (y253.length : Int)) ≤ (y253.length : Int) then ((nat_right.f k (y253.take ((mn (wrap64 (Int.tdiv a1 32)) (y253.length : Int)) : Int).toNat)).bind fun t263 => (if 0 ≤ (wrap64 ((y253.length : Int) - (mn (wrap64 (Int.tdiv a1 32)) (y253.length : Int)))) then (if (wrap64 ((y253.length : Int) - (mn (wrap64 (Int.tdiv a1 32)) (y253.length : Int))) : Int).toNat ≤ 70368744177664 then ((some (List.replicate (wrap64 ((y253.length : Int) - (mn (wrap64 (Int.tdiv a1 32)) (y253.length : Int))) : Int).toNat 0 : List Int)).bind fun y264 => ((some (overlay_ y264 (y253.drop ((mn (wrap64 (Int.tdiv a1 32)) (y253.length : Int)) : Int).toNat) : List Int)).bind fun y272 => (if (y264.length : Int) = 0 then (nat_Shr.j0 k (decide (t263 > 0)) y272 (Int.tmod a1 32) true) else (nat_Shr.j0 k (decide (t263 > 0)) y272 (Int.tmod a1 32) (decide ((mn (wrap64 (Int.tdiv a1 32)) (y253.length : Int)) < (wrap64 (Int.tdiv a1 32)))))))) else (none)) else (none))) else (none)) else (none))) else (none)) else (none))) = some (r1,r2,r3) := by rw [if_neg (show ¬ (false = true) by decide)] at H;exact H
   clear H
   have H := H1
   clear H1
   replace H := Option.bind_eq_some_iff.mp H
   obtain ⟨t252,A90,H⟩ := H
   replace H : (if 0 ≤ t252 then (if t252 ≤ (l0.length : Int) then ((some (l0.take (t252 : Int).toNat : List Int)).bind fun y253 => (if 0 ≤ (mn (wrap64 (Int.tdiv a1 32)) (y253.length : Int)) then (if (mn (wrap64 (Int.tdiv a1 32)) (y253.length : Int)) ≤ (y253.length : Int) then ((nat_right.f k (y253.take ((mn (wrap64 (Int.tdiv a1 32)) (y253.length : Int)) : Int).toNat)).bind fun t263 => (if 0 ≤ (wrap64 ((y253.length : Int) - (mn (wrap64 (Int.tdiv a1 32)) (y253.length : Int)))) then (if (wrap64 ((y253.length : Int) - (mn (wrap64 (Int.tdiv a1 32)) (y253.length : Int))) : Int).toNat ≤ 70368744177664 then ((some (List.replicate (wrap64 ((y253.length : Int) - (mn (wrap64 (Int.tdiv a1 32)) (y253.length : Int))) : Int).toNat 0 : List Int)).bind fun y264 => ((some (overlay_ y264 (y253.drop ((mn (wrap64 (Int.tdiv a1 32)) (y253.length : Int)) : Int).toNat) : List Int)).bind fun y272 => (if (y264.length : Int) = 0 then (nat_Shr.j0 k (decide (t263 > 0)) y272 (Int.tmod a1 32) true) else (nat_Shr.j0 k (decide (t263 > 0)) y272 (Int.tmod a1 32) (decide ((mn (wrap64 (Int.tdiv a1 32)) (y253.length : Int)) < (wrap64 (Int.tdiv a1 32)))))))) else (none)) else (none))) else (none)) else (none))) else (none)) else (none)) = some (r1,r2,r3) := H
   have A9 := Aside0.mk A90
   clear A90
   by_cases c10 : 0 ≤ t252
   ·rw [if_pos c10] at H
    have c10b0 := eq_true c10
    have c10b1 : decide (0 ≤ t252) = true := decide_eq_true c10
    clear c10
    by_cases c11 : t252 ≤ (l0.length : Int)
    ·rw [if_pos c11] at H
     have c11b0 := eq_true c11
     have c11b1 : decide (t252 ≤ (l0.length : Int)) = true := decide_eq_true c11
     clear c11
     obtain ⟨y253,hy253⟩ : ∃ y_ : List Int,y_ = (l0.take (t252 : Int).toNat) := ⟨_,rfl⟩
     replace H : (if 0 ≤ (mn (wrap64 (Int.tdiv a1 32)) (y253.length : Int)) then (if (mn (wrap64 (Int.tdiv a1 32)) (y253.length : Int)) ≤ (y253.length : Int) then ((nat_right.f k (y253.take ((mn (wrap64 (Int.tdiv a1 32)) (y253.length : Int)) : Int).toNat)).bind fun t263 => (if 0 ≤ (wrap64 ((y253.length : Int) - (mn (wrap64 (Int.tdiv a1 32)) (y253.length : Int)))) then (if (wrap64 ((y253.length : Int) - (mn (wrap64 (Int.tdiv a1 32)) (y253.length : Int))) : Int).toNat ≤ 70368744177664 then ((some (List.replicate (wrap64 ((y253.length : Int) - (mn (wrap64 (Int.tdiv a1 32)) (y253.length : Int))) : Int).toNat 0 : List Int)).bind fun y264 => ((some (overlay_ y264 (y253.drop ((mn (wrap64 (Int.tdiv a1 32)) (y253.length : Int)) : Int).toNat) : List Int)).bind fun y272 => (if (y264.length : Int) = 0 then (nat_Shr.j0 k (decide (t263 > 0)) y272 (Int.tmod a1 32) true) else (nat_Shr.j0 k (decide (t263 > 0)) y272 (Int.tmod a1 32) (decide ((mn (wrap64 (Int.tdiv a1 32)) (y253.length : Int)) < (wrap64 (Int.tdiv a1 32)))))))) else (none)) else (none))) else (none)) else (none)) = some (r1,r2,r3) := by first | (rw [hy253];with_reducible exact H) | (have H2_ := (Option.bind_some _ _).symm.trans H;rw [hy253];with_reducible exact H2_) | (have H2_ := (Option.bind_some _ _).symm.trans H;with_reducible exact H2_) | with_reducible exact H | (rw [hy253];exact H) | exact H
     have Ny253 := Aside0.mk hy253
     clear hy253
     obtain ⟨ji12,hji12⟩ : ∃ j_ : Int,(mn (wrap64 (Int.tdiv a1 32)) (y253.length : Int)) = j_ := ⟨_,rfl⟩
     replace H : (if 0 ≤ (ji12) then (if (ji12) ≤ (y253.length : Int) then ((nat_right.f k (y253.take ((ji12) : Int).toNat)).bind fun t263 => (if 0 ≤ (wrap64 ((y253.length : Int) - (ji12))) then (if (wrap64 ((y253.length : Int) - (ji12)) : Int).toNat ≤ 70368744177664 then ((some (List.replicate (wrap64 ((y253.length : Int) - (ji12)) : Int).toNat 0 : List Int)).bind fun y264 => ((some (overlay_ y264 (y253.drop ((ji12) : Int).toNat) : List Int)).bind fun y272 => (if (y264.length : Int) = 0 then (nat_Shr.j0 k (decide (t263 > 0)) y272 (Int.tmod a1 32) true) else (nat_Shr.j0 k (decide (t263 > 0)) y272 (Int.tmod a1 32) (decide ((ji12) < (wrap64 (Int.tdiv a1 32)))))))) else (none)) else (none))) else (none)) else (none)) = some (r1,r2,r3) := by first | (rw [hji12] at H;exact H) | (simp only [hji12] at H ⊢;exact H)
     (try rw [hji12] at A4)
     (try rw [hji12] at A9)
     have hji12_ : (if (y253.length : Int) < (wrap64 (Int.tdiv a1 32)) then (y253.length : Int) else (wrap64 (Int.tdiv a1 32))) = ji12 := hji12
     by_cases c13 : 0 ≤ (ji12)
     ·rw [if_pos c13] at H
      have c13b0 := eq_true c13
      have c13b1 : decide (0 ≤ (ji12)) = true := decide_eq_true c13
      clear c13
      by_cases c14 : (ji12) ≤ (y253.length : Int)
      ·rw [if_pos c14] at H
       have c14b0 := eq_true c14
       have c14b1 : decide ((ji12) ≤ (y253.length : Int)) = true := decide_eq_true c14
       clear c14
       obtain ⟨y258,hy258⟩ : ∃ y_ : List Int,y_ = (y253.take ((ji12) : Int).toNat) := ⟨_,rfl⟩
       replace H : ((nat_right.f k y258).bind fun t263 => (if 0 ≤ (wrap64 ((y253.length : Int) - (ji12))) then (if (wrap64 ((y253.length : Int) - (ji12)) : Int).toNat ≤ 70368744177664 then ((some (List.replicate (wrap64 ((y253.length : Int) - (ji12)) : Int).toNat 0 : List Int)).bind fun y264 => ((some (overlay_ y264 (y253.drop ((ji12) : Int).toNat) : List Int)).bind fun y272 => (if (y264.length : Int) = 0 then (nat_Shr.j0 k (decide (t263 > 0)) y272 (Int.tmod a1 32) true) else (nat_Shr.j0 k (decide (t263 > 0)) y272 (Int.tmod a1 32) (decide ((ji12) < (wrap64 (Int.tdiv a1 32)))))))) else (none)) else (none))) = some (r1,r2,r3) := by first | (rw [hy258];with_reducible exact H) | (have H2_ := (Option.bind_some _ _).symm.trans H;rw [hy258];with_reducible exact H2_) | (have H2_ := (Option.bind_some _ _).symm.trans H;with_reducible exact H2_) | with_reducible exact H | (rw [hy258];exact H) | exact H
       have Ny258 := Aside0.mk hy258
       clear hy258
       replace H := Option.bind_eq_some_iff.mp H
       obtain ⟨t263,A150,H⟩ := H
       replace H : (if 0 ≤ (wrap64 ((y253.length : Int) - (ji12))) then (if (wrap64 ((y253.length : Int) - (ji12)) : Int).toNat ≤ 70368744177664 then ((some (List.replicate (wrap64 ((y253.length : Int) - (ji12)) : Int).toNat 0 : List Int)).bind fun y264 => ((some (overlay_ y264 (y253.drop ((ji12) : Int).toNat) : List Int)).bind fun y272 => (if (y264.length : Int) = 0 then (nat_Shr.j0 k (decide (t263 > 0)) y272 (Int.tmod a1 32) true) else (nat_Shr.j0 k (decide (t263 > 0)) y272 (Int.tmod a1 32) (decide ((ji12) < (wrap64 (Int.tdiv a1 32)))))))) else (none)) else (none)) = some (r1,r2,r3) := H
       have A15 := Aside0.mk A150
       clear A150
       obtain ⟨ji16,hji16⟩ : ∃ j_ : Int,(wrap64 ((y253.length : Int) - (ji12))) = j_ := ⟨_,rfl⟩
       replace H : (if 0 ≤ (ji16) then (if (ji16 : Int).toNat ≤ 70368744177664 then ((some (List.replicate (ji16 : Int).toNat 0 : List Int)).bind fun y264 => ((some (overlay_ y264 (y253.drop ((ji12) : Int).toNat) : List Int)).bind fun y272 => (if (y264.length : Int) = 0 then (nat_Shr.j0 k (decide (t263 > 0)) y272 (Int.tmod a1 32) true) else (nat_Shr.j0 k (decide (t263 > 0)) y272 (Int.tmod a1 32) (decide ((ji12) < (wrap64 (Int.tdiv a1 32)))))))) else (none)) else (none)) = some (r1,r2,r3) := by first | (rw [hji16] at H;exact H) | (simp only [hji16] at H ⊢;exact H)
       (try rw [hji16] at A4)
       (try rw [hji16] at A9)
       (try rw [hji16] at A15)
       have hji16w : (IntKind.i64.wrap ((y253.length : Int) - (ji12))) = ji16 := (i64_w _).trans hji16
       by_cases c17 : 0 ≤ (ji16)
       ·rw [if_pos c17] at H
        have c17b0 := eq_true c17
        have c17b1 : decide (0 ≤ (ji16)) = true := decide_eq_true c17
        clear c17
        by_cases c18 : (ji16 : Int).toNat ≤ 70368744177664
        ·rw [if_pos c18] at H
         have c18b0 := eq_true c18
         have c18b1 : decide ((ji16 : Int).toNat ≤ 70368744177664) = true := decide_eq_true c18
         clear c18
         obtain ⟨y264,hy264⟩ : ∃ y_ : List Int,y_ = (List.replicate (ji16 : Int).toNat 0) := ⟨_,rfl⟩
         replace H : ((some (overlay_ y264 (y253.drop ((ji12) : Int).toNat) : List Int)).bind fun y272 => (if (y264.length : Int) = 0 then (nat_Shr.j0 k (decide (t263 > 0)) y272 (Int.tmod a1 32) true) else (nat_Shr.j0 k (decide (t263 > 0)) y272 (Int.tmod a1 32) (decide ((ji12) < (wrap64 (Int.tdiv a1 32))))))) = some (r1,r2,r3) := by first | (rw [hy264];with_reducible exact H) | (have H2_ := (Option.bind_some _ _).symm.trans H;rw [hy264];with_reducible exact H2_) | (have H2_ := (Option.bind_some _ _).symm.trans H;with_reducible exact H2_) | with_reducible exact H | (rw [hy264];exact H) | exact H
         have Ny264 := Aside0.mk hy264
         clear hy264
         have c19b0 := eq_true (od_ : 0 ≤ (ji12))
         have c20b0 := eq_true (od_ : (ji12) ≤ (y253.length : Int))
         obtain ⟨y267,hy267⟩ : ∃ y_ : List Int,y_ = (y253.drop ((ji12) : Int).toNat) := ⟨_,rfl⟩
         replace H : ((some (overlay_ y264 y267 : List Int)).bind fun y272 => (if (y264.length : Int) = 0 then (nat_Shr.j0 k (decide (t263 > 0)) y272 (Int.tmod a1 32) true) else (nat_Shr.j0 k (decide (t263 > 0)) y272 (Int.tmod a1 32) (decide ((ji12) < (wrap64 (Int.tdiv a1 32))))))) = some (r1,r2,r3) := by first | (rw [hy267];with_reducible exact H) | (have H2_ := (Option.bind_some _ _).symm.trans H;rw [hy267];with_reducible exact H2_) | (have H2_ := (Option.bind_some _ _).symm.trans H;with_reducible exact H2_) | with_reducible exact H | (rw [hy267];exact H) | exact H
         have Ny267 := Aside0.mk hy267
         clear hy267
         obtain ⟨y272,hy272⟩ : ∃ y_ : List Int,y_ = (overlay_ y264 y267) := ⟨_,rfl⟩
         replace H : (if (y264.length : Int) = 0 then (nat_Shr.j0 k (decide (t263 > 0)) y272 (Int.tmod a1 32) true) else (nat_Shr.j0 k (decide (t263 > 0)) y272 (Int.tmod a1 32) (decide ((ji12) < (wrap64 (Int.tdiv a1 32)))))) = some (r1,r2,r3) := by first | (rw [hy272];with_reducible exact H) | (have H2_ := (Option.bind_some _ _).symm.trans H;rw [hy272];with_reducible exact H2_) | (have H2_ := (Option.bind_some _ _).symm.trans H;with_reducible exact H2_) | with_reducible exact H | (rw [hy272];exact H) | exact H
         have Ny272 := Aside0.mk hy272
         clear hy272
         have HC21 := Aside0.mk H
         clear H
         go_enter Tryd.func18,Tryd.ntmps18
         go_upto_region 11 with (first | ((with_reducible refine gate_dst (N := 18) rfl ?_);refine Kd.N_lit (Kd.slice 43 (Kd.int .u32)) _ 24 ?hg (N' := 18) ?hd (xs := ([l0] : List (List Int))) (inner := [.slice A0 l0.length c0]) (ok := (fun k_ => (P0_ k_ ∨ w.heap.size ≤ k_))) (okp := (fun k_ => (P0_ k_ ∨ w.heap.size ≤ k_))) ?hr ?hp (fun _ hk => hk) ((show ∀ k_,w.heap.size ≤ k_ → (fun k_ => (P0_ k_ ∨ w.heap.size ≤ k_)) k_ from fun k_ hk => (.inr (Nat.le_trans (below_size bl_) hk))) _ (Nat.le_refl _)) (Below.refl _ _) (Nat.le_refl _) (by simp) ?_;(case hd => rfl);(case hg => rfl);(case hr => first | (go_simp;done) | (go_simp;rfl));(case hp => exact (Reps.one (show Kd.FK (Kd.slice 43 (Kd.int .u32)) _ _ l0 [.slice A0 l0.length c0] from (Kd.FK_slice_mk (Kd.V_reads' (Kd.V_mono (ok' := (fun k_ => (P0_ k_ ∨ w.heap.size ≤ k_))) (HO0.out) (fun k_ hk => hk))).2.1 (Kd.V_F (Kd.V_mono (ok' := (fun k_ => (P0_ k_ ∨ w.heap.size ≤ k_))) (HO0.out) (fun k_ hk => hk))))) (Reps.none _ _)));intro v249 w22 ho23 hb hg_ hnew_;clear hg_ hnew_;(first | rw [← Ny248.out] at ho23 | (simp only [Int.reduceToNat] at ho23;rw [← Ny248.out] at ho23));replace HO0 := Aside0.mk (Kd.V_elder' (va_ HO0.out) (Kd.N_base ho23) hb);have HO250 := Aside0.mk (Kd.N_lower ho23 (below_size bl_));replace HB := Aside0.mk (below_step bl_ hb);clear hb ho23;obtain ⟨Ao24,co24,eo24⟩ := Kd.N_slice HO250.out;subst eo24) | (go_at_call 24;(with_reducible refine (nat_over.calls k _ _ y248 false _ ?side1 ?side2 A4.out).mono ?_);(case side1 => exact ca_ (Kd.N_reads' HO250.out).2.2);(case side2 => exact (Kd.N_reads' HO250.out).2.1);rintro e w' ⟨rfl,⟨nd,rfl⟩⟩;(try first | exact ⟨rfl,_,World.drewN_drewN _ _ _⟩ | exact ⟨rfl,_,Eq.trans (World.drewN_drewN _ _ _) (congrArg (World.drewN _) (Nat.add_assoc _ _ _))⟩)) | (go_at_call 25;(with_reducible refine (nat_cut_read.calls (l' := y253) (hl' := Ny253.out) k _ _ l0 t252 _ ?side1 ?side2 A9.out).mono ?_);(case side1 => exact ca_ (Kd.V_reads' HO0.out).2.2);(case side2 => exact (Kd.V_reads' HO0.out).2.1);rintro e w' ⟨rfl,⟨nd,rfl⟩⟩;(try first | exact ⟨rfl,_,World.drewN_drewN _ _ _⟩ | exact ⟨rfl,_,Eq.trans (World.drewN_drewN _ _ _) (congrArg (World.drewN _) (Nat.add_assoc _ _ _))⟩);have q25 : (t252 : Int) ≤ ((l0.length : Int) : Int) := od_;obtain ⟨i025,hi025,_,hsz25,_⟩ := info_parts info43;have hroom25 : l0.length ≤ c0 := (Kd.V_reads' HO0.out).2.1;have hC25 : Kd.F (Kd.int .u32) _ _ A0 l0.length l0 := (Kd.V_at (base := w.heap.size) HO0.out).2.2;have hcut25 := cut_to (P := Tryd.prog) 24 43 .i64 Tryd.underlying24 hi025 A0 l0.length c0 t252 od_ q25 hroom25;have hr25 := Kd.F_take (m := (t252 : Int).toNat) hC25 (by omega);have hy25 : y253.length = (t252 : Int).toNat := (by rw [Ny253.out,List.length_take];omega);rw [← Ny253.out] at hr25;rw [← hy25] at hcut25;have HO257 := Aside0.mk (show Kd.V (Kd.int .u32) 43 _ w.heap.size _ (.slice A0 y253.length c0) y253 from Kd.V_mk (by omega) hr25);have HC257 := Aside0.mk (show y253.length ≤ c0 from by omega);clear hr25 hC25 hroom25 hi025 hsz25;have KY25 := Aside0.mk hy25;clear hy25;replace q25 := eq_true q25;have q26 : ((ji12) : Int) ≤ ((y253.length : Int) : Int) := od_;obtain ⟨i026,hi026,_,hsz26,_⟩ := info_parts info43;have hroom26 : y253.length ≤ c0 := (Kd.V_reads' HO257.out).2.1;have hC26 : Kd.F (Kd.int .u32) _ _ A0 y253.length y253 := (Kd.V_at (base := w.heap.size) HO257.out).2.2;have hcut26 := cut_to (P := Tryd.prog) 24 43 .i64 Tryd.underlying24 hi026 A0 y253.length c0 (ji12) od_ q26 hroom26;have hr26 := Kd.F_take (m := ((ji12) : Int).toNat) hC26 (by omega);have hy26 : y258.length = ((ji12) : Int).toNat := (by rw [Ny258.out,List.length_take];omega);rw [← Ny258.out] at hr26;rw [← hy26] at hcut26;have HO262 := Aside0.mk (show Kd.V (Kd.int .u32) 43 _ w.heap.size _ (.slice A0 y258.length c0) y258 from Kd.V_mk (by omega) hr26);have HC262 := Aside0.mk (show y258.length ≤ c0 from by omega);clear hr26 hC26 hroom26 hi026 hsz26;have KY26 := Aside0.mk hy26;clear hy26;replace q26 := eq_true q26) | (go_at_call 29;(with_reducible refine (nat_right.calls k _ _ y258 t263 _ ?side1 ?side2 A15.out).mono ?_);(case side1 => exact ca_ (Kd.V_reads' HO262.out).2.2);(case side2 => exact (Kd.V_reads' HO262.out).2.1);rintro e w' ⟨rfl,⟨nd,rfl⟩⟩;(try first | exact ⟨rfl,_,World.drewN_drewN _ _ _⟩ | exact ⟨rfl,_,Eq.trans (World.drewN_drewN _ _ _) (congrArg (World.drewN _) (Nat.add_assoc _ _ _))⟩)) | ((with_reducible refine gate_dst (N := 36) rfl ?_);refine Kd.R_make (Kd.int .u32) _ 43 rfl (N := 36) rfl 24 _ _ rfl ji16 rfl rfl Tryd.underlying24 (.int .u32 0) 4 info43 rfl (by decide) (by omega) 0 (ok := fun _ => True) (okp := fun _ => True) rfl (fun _ hk => hk) trivial od_ (Nat.le_trans (Nat.mul_le_mul_right _ (od_ : ji16.toNat ≤ 70368744177664)) (by omega)) (Below.refl _ _) (Nat.le_refl _) ?_;intro v265 w27 ho28 hb hg_ hnew_;clear hg_ hnew_;(first | rw [← Ny264.out] at ho28 | (simp only [Int.reduceToNat] at ho28;rw [← Ny264.out] at ho28));replace HO0 := Aside0.mk (Kd.V_elder' (va_ HO0.out) (Kd.R_base ho28) hb);replace HO250 := Aside0.mk (Kd.N_elder' (by (with_reducible repeat (first | apply Kd.N_alloc | apply Kd.N_drewN | apply Kd.N_drew));exact HO250.out) (Kd.R_base ho28) hb);replace HO257 := Aside0.mk (Kd.V_elder' (va_ HO257.out) (Kd.R_base ho28) hb);replace HO262 := Aside0.mk (Kd.V_elder' (va_ HO262.out) (Kd.R_base ho28) hb);have HO266 := Aside0.mk (Kd.R_lower (Kd.R_newM (M := fun k_ => (w.heap.size ≤ k_)) ho28 (below_size bl_) (fun k_ h_ => h_)) (below_size bl_));replace HB := Aside0.mk (below_step bl_ hb);clear hb ho28;(try clear hcut25);(try clear hcut26);have q29 : ((ji12) : Int) ≤ ((y253.length : Int) : Int) := od_;obtain ⟨i029,hi029,_,hsz29,_⟩ := info_parts info43;have hroom29 : y253.length ≤ c0 := (Kd.V_reads' HO257.out).2.1;have hC29 : Kd.F (Kd.int .u32) _ _ A0 y253.length y253 := (Kd.V_at (base := w.heap.size) HO257.out).2.2;have q029 : (0 : Int) ≤ ((ji12) : Int) := od_;have hcut29 := cut_from (P := Tryd.prog) 24 43 .i64 Tryd.underlying24 hi029 1 hsz29 A0 y253.length c0 (ji12) q029 q29;have hr29 := Kd.F_cut (m := ((ji12) : Int).toNat) (c := c0) hC29 (by omega) hroom29;obtain ⟨A29,hA29⟩ : ∃ A1,A1 = (if c0 = ((ji12) : Int).toNat then A0 else (A0 : Option Addr).map (·.add (((ji12) : Int).toNat * 1))) := ⟨_,rfl⟩;obtain ⟨c29,hc29⟩ : ∃ c1,c1 = c0 - ((ji12) : Int).toNat := ⟨_,rfl⟩;have hy29 : y267.length = y253.length - ((ji12) : Int).toNat := (by rw [Ny267.out,List.length_drop] <;> omega);rw [show (y253).drop ((ji12) : Int).toNat = y267 from Ny267.out.symm] at hr29;replace hr29 : Kd.F (Kd.int .u32) _ _ A29 y267.length y267 := (by rw [hA29];exact hr29);rw [← hy29,← hA29,← hc29] at hcut29;have HO271 := Aside0.mk (show Kd.V (Kd.int .u32) 43 _ w.heap.size _ (.slice A29 y267.length c29) y267 from Kd.V_mk (by rw [hy29,hc29];exact Nat.sub_le_sub_right hroom29 _) hr29);have HC271 := Aside0.mk (show y267.length ≤ c29 from by rw [hy29,hc29];exact Nat.sub_le_sub_right hroom29 _);have KC29 := Aside0.mk hc29;clear hr29 hC29 hroom29 hi029 hsz29 hc29;have KY29 := Aside0.mk hy29;have KA29 := Aside0.mk hA29;clear hy29 hA29;replace q29 := eq_true q29;obtain ⟨Ao32,co32,eo32⟩ := Kd.R_slice HO266.out;subst eo32;have n_ := Aside0.mk (Kd.R_mono (ok' := (fun k_ => (w.heap.size ≤ k_))) HO266.out (fun k_ hk => hk.1));clear HO266;have HO266 := n_;clear n_) | ((with_reducible refine gate_builtin (b := .copy) (xs := #[.tmp 37,.tmp 40]) rfl ?_);refine Kd.R_copy (enc := (Value.int .u32)) (h1 := fun _ => rfl) 0 (w0 := w) w.heap.size rfl (.tmp 37) (.tmp 40) 24 24 43 rfl Tryd.underlying24 (by kernel_rfl) (.slice Ao32 y264.length co32) y264 y267 _ _ _ (fun k_ => (w.heap.size ≤ k_)) rfl rfl ?aO ?aR ?aB ?aS ?_;(case aO => exact (ra_ HO266.out));(case aR => exact ca_ (Kd.V_reads' HO271.out).2.2);(case aB => exact bl_);(case aS => exact (below_size bl_));intro w31 ho hb hg;have hp_ : Kd.R (Kd.int .u32) 43 w31 w.heap.size (fun k_ => (w.heap.size ≤ k_)) (.slice Ao32 y264.length co32) y272 := (by rw [Ny272.out];exact ho);clear ho;replace HO0 := Aside0.mk (Kd.V_afterv (v := (.slice Ao32 y264.length co32)) (v1 := (.slice Ao32 y264.length co32)) (ok := (fun k_ => (P0_ k_ ∨ w.heap.size ≤ k_) ∧ some k_ ≠ (.slice Ao24 y248.length co24 : Value).ownBlock)) (va_ HO0.out) hg (.inl rfl));replace HO250 := Aside0.mk (Kd.N_afterv (v := (.slice Ao32 y264.length co32)) (v1 := (.slice Ao32 y264.length co32)) (ok := (fun k_ => (P0_ k_ ∨ w.heap.size ≤ k_))) (by (with_reducible repeat (first | apply Kd.N_alloc | apply Kd.N_drewN | apply Kd.N_drew));exact HO250.out) hg (.inl rfl));replace HO257 := Aside0.mk (Kd.V_afterv (v := (.slice Ao32 y264.length co32)) (v1 := (.slice Ao32 y264.length co32)) (ok := (fun k_ => (P0_ k_ ∨ w.heap.size ≤ k_) ∧ some k_ ≠ (.slice Ao24 y248.length co24 : Value).ownBlock)) (va_ HO257.out) hg (.inl rfl));replace HO262 := Aside0.mk (Kd.V_afterv (v := (.slice Ao32 y264.length co32)) (v1 := (.slice Ao32 y264.length co32)) (ok := (fun k_ => (P0_ k_ ∨ w.heap.size ≤ k_) ∧ some k_ ≠ (.slice Ao24 y248.length co24 : Value).ownBlock)) (va_ HO262.out) hg (.inl rfl));replace HO266 := Aside0.mk (hp_);replace HO271 := Aside0.mk (Kd.V_afterv (v := (.slice Ao32 y264.length co32)) (v1 := (.slice Ao32 y264.length co32)) (ok := (fun k_ => (P0_ k_ ∨ w.heap.size ≤ k_) ∧ some k_ ≠ (.slice Ao24 y248.length co24 : Value).ownBlock)) (va_ HO271.out) hg (.inl rfl));replace HB := Aside0.mk (hb);clear hb hg hp_))
         repeat (go_quiet (first | ((with_reducible refine gate_dst (N := 18) rfl ?_);refine Kd.N_lit (Kd.slice 43 (Kd.int .u32)) _ 24 ?hg (N' := 18) ?hd (xs := ([l0] : List (List Int))) (inner := [.slice A0 l0.length c0]) (ok := (fun k_ => (P0_ k_ ∨ w.heap.size ≤ k_))) (okp := (fun k_ => (P0_ k_ ∨ w.heap.size ≤ k_))) ?hr ?hp (fun _ hk => hk) ((show ∀ k_,w.heap.size ≤ k_ → (fun k_ => (P0_ k_ ∨ w.heap.size ≤ k_)) k_ from fun k_ hk => (.inr (Nat.le_trans (below_size bl_) hk))) _ (Nat.le_refl _)) (Below.refl _ _) (Nat.le_refl _) (by simp) ?_;(case hd => rfl);(case hg => rfl);(case hr => first | (go_simp;done) | (go_simp;rfl));(case hp => exact (Reps.one (show Kd.FK (Kd.slice 43 (Kd.int .u32)) _ _ l0 [.slice A0 l0.length c0] from (Kd.FK_slice_mk (Kd.V_reads' (Kd.V_mono (ok' := (fun k_ => (P0_ k_ ∨ w.heap.size ≤ k_))) (HO0.out) (fun k_ hk => hk))).2.1 (Kd.V_F (Kd.V_mono (ok' := (fun k_ => (P0_ k_ ∨ w.heap.size ≤ k_))) (HO0.out) (fun k_ hk => hk))))) (Reps.none _ _)));intro v249 w22 ho23 hb hg_ hnew_;clear hg_ hnew_;(first | rw [← Ny248.out] at ho23 | (simp only [Int.reduceToNat] at ho23;rw [← Ny248.out] at ho23));replace HO0 := Aside0.mk (Kd.V_elder' (va_ HO0.out) (Kd.N_base ho23) hb);have HO250 := Aside0.mk (Kd.N_lower ho23 (below_size bl_));replace HB := Aside0.mk (below_step bl_ hb);clear hb ho23;obtain ⟨Ao24,co24,eo24⟩ := Kd.N_slice HO250.out;subst eo24) | (go_at_call 24;(with_reducible refine (nat_over.calls k _ _ y248 false _ ?side1 ?side2 A4.out).mono ?_);(case side1 => exact ca_ (Kd.N_reads' HO250.out).2.2);(case side2 => exact (Kd.N_reads' HO250.out).2.1);rintro e w' ⟨rfl,⟨nd,rfl⟩⟩;(try first | exact ⟨rfl,_,World.drewN_drewN _ _ _⟩ | exact ⟨rfl,_,Eq.trans (World.drewN_drewN _ _ _) (congrArg (World.drewN _) (Nat.add_assoc _ _ _))⟩)) | (go_at_call 25;(with_reducible refine (nat_cut_read.calls (l' := y253) (hl' := Ny253.out) k _ _ l0 t252 _ ?side1 ?side2 A9.out).mono ?_);(case side1 => exact ca_ (Kd.V_reads' HO0.out).2.2);(case side2 => exact (Kd.V_reads' HO0.out).2.1);rintro e w' ⟨rfl,⟨nd,rfl⟩⟩;(try first | exact ⟨rfl,_,World.drewN_drewN _ _ _⟩ | exact ⟨rfl,_,Eq.trans (World.drewN_drewN _ _ _) (congrArg (World.drewN _) (Nat.add_assoc _ _ _))⟩);have q25 : (t252 : Int) ≤ ((l0.length : Int) : Int) := od_;obtain ⟨i025,hi025,_,hsz25,_⟩ := info_parts info43;have hroom25 : l0.length ≤ c0 := (Kd.V_reads' HO0.out).2.1;have hC25 : Kd.F (Kd.int .u32) _ _ A0 l0.length l0 := (Kd.V_at (base := w.heap.size) HO0.out).2.2;have hcut25 := cut_to (P := Tryd.prog) 24 43 .i64 Tryd.underlying24 hi025 A0 l0.length c0 t252 od_ q25 hroom25;have hr25 := Kd.F_take (m := (t252 : Int).toNat) hC25 (by omega);have hy25 : y253.length = (t252 : Int).toNat := (by rw [Ny253.out,List.length_take];omega);rw [← Ny253.out] at hr25;rw [← hy25] at hcut25;have HO257 := Aside0.mk (show Kd.V (Kd.int .u32) 43 _ w.heap.size _ (.slice A0 y253.length c0) y253 from Kd.V_mk (by omega) hr25);have HC257 := Aside0.mk (show y253.length ≤ c0 from by omega);clear hr25 hC25 hroom25 hi025 hsz25;have KY25 := Aside0.mk hy25;clear hy25;replace q25 := eq_true q25;have q26 : ((ji12) : Int) ≤ ((y253.length : Int) : Int) := od_;obtain ⟨i026,hi026,_,hsz26,_⟩ := info_parts info43;have hroom26 : y253.length ≤ c0 := (Kd.V_reads' HO257.out).2.1;have hC26 : Kd.F (Kd.int .u32) _ _ A0 y253.length y253 := (Kd.V_at (base := w.heap.size) HO257.out).2.2;have hcut26 := cut_to (P := Tryd.prog) 24 43 .i64 Tryd.underlying24 hi026 A0 y253.length c0 (ji12) od_ q26 hroom26;have hr26 := Kd.F_take (m := ((ji12) : Int).toNat) hC26 (by omega);have hy26 : y258.length = ((ji12) : Int).toNat := (by rw [Ny258.out,List.length_take];omega);rw [← Ny258.out] at hr26;rw [← hy26] at hcut26;have HO262 := Aside0.mk (show Kd.V (Kd.int .u32) 43 _ w.heap.size _ (.slice A0 y258.length c0) y258 from Kd.V_mk (by omega) hr26);have HC262 := Aside0.mk (show y258.length ≤ c0 from by omega);clear hr26 hC26 hroom26 hi026 hsz26;have KY26 := Aside0.mk hy26;clear hy26;replace q26 := eq_true q26) | (go_at_call 29;(with_reducible refine (nat_right.calls k _ _ y258 t263 _ ?side1 ?side2 A15.out).mono ?_);(case side1 => exact ca_ (Kd.V_reads' HO262.out).2.2);(case side2 => exact (Kd.V_reads' HO262.out).2.1);rintro e w' ⟨rfl,⟨nd,rfl⟩⟩;(try first | exact ⟨rfl,_,World.drewN_drewN _ _ _⟩ | exact ⟨rfl,_,Eq.trans (World.drewN_drewN _ _ _) (congrArg (World.drewN _) (Nat.add_assoc _ _ _))⟩)) | ((with_reducible refine gate_dst (N := 36) rfl ?_);refine Kd.R_make (Kd.int .u32) _ 43 rfl (N := 36) rfl 24 _ _ rfl ji16 rfl rfl Tryd.underlying24 (.int .u32 0) 4 info43 rfl (by decide) (by omega) 0 (ok := fun _ => True) (okp := fun _ => True) rfl (fun _ hk => hk) trivial od_ (Nat.le_trans (Nat.mul_le_mul_right _ (od_ : ji16.toNat ≤ 70368744177664)) (by omega)) (Below.refl _ _) (Nat.le_refl _) ?_;intro v265 w27 ho28 hb hg_ hnew_;clear hg_ hnew_;(first | rw [← Ny264.out] at ho28 | (simp only [Int.reduceToNat] at ho28;rw [← Ny264.out] at ho28));replace HO0 := Aside0.mk (Kd.V_elder' (va_ HO0.out) (Kd.R_base ho28) hb);replace HO250 := Aside0.mk (Kd.N_elder' (by (with_reducible repeat (first | apply Kd.N_alloc | apply Kd.N_drewN | apply Kd.N_drew));exact HO250.out) (Kd.R_base ho28) hb);replace HO257 := Aside0.mk (Kd.V_elder' (va_ HO257.out) (Kd.R_base ho28) hb);replace HO262 := Aside0.mk (Kd.V_elder' (va_ HO262.out) (Kd.R_base ho28) hb);have HO266 := Aside0.mk (Kd.R_lower (Kd.R_newM (M := fun k_ => (w.heap.size ≤ k_)) ho28 (below_size bl_) (fun k_ h_ => h_)) (below_size bl_));replace HB := Aside0.mk (below_step bl_ hb);clear hb ho28;(try clear hcut25);(try clear hcut26);have q29 : ((ji12) : Int) ≤ ((y253.length : Int) : Int) := od_;obtain ⟨i029,hi029,_,hsz29,_⟩ := info_parts info43;have hroom29 : y253.length ≤ c0 := (Kd.V_reads' HO257.out).2.1;have hC29 : Kd.F (Kd.int .u32) _ _ A0 y253.length y253 := (Kd.V_at (base := w.heap.size) HO257.out).2.2;have q029 : (0 : Int) ≤ ((ji12) : Int) := od_;have hcut29 := cut_from (P := Tryd.prog) 24 43 .i64 Tryd.underlying24 hi029 1 hsz29 A0 y253.length c0 (ji12) q029 q29;have hr29 := Kd.F_cut (m := ((ji12) : Int).toNat) (c := c0) hC29 (by omega) hroom29;obtain ⟨A29,hA29⟩ : ∃ A1,A1 = (if c0 = ((ji12) : Int).toNat then A0 else (A0 : Option Addr).map (·.add (((ji12) : Int).toNat * 1))) := ⟨_,rfl⟩;obtain ⟨c29,hc29⟩ : ∃ c1,c1 = c0 - ((ji12) : Int).toNat := ⟨_,rfl⟩;have hy29 : y267.length = y253.length - ((ji12) : Int).toNat := (by rw [Ny267.out,List.length_drop] <;> omega);rw [show (y253).drop ((ji12) : Int).toNat = y267 from Ny267.out.symm] at hr29;replace hr29 : Kd.F (Kd.int .u32) _ _ A29 y267.length y267 := (by rw [hA29];exact hr29);rw [← hy29,← hA29,← hc29] at hcut29;have HO271 := Aside0.mk (show Kd.V (Kd.int .u32) 43 _ w.heap.size _ (.slice A29 y267.length c29) y267 from Kd.V_mk (by rw [hy29,hc29];exact Nat.sub_le_sub_right hroom29 _) hr29);have HC271 := Aside0.mk (show y267.length ≤ c29 from by rw [hy29,hc29];exact Nat.sub_le_sub_right hroom29 _);have KC29 := Aside0.mk hc29;clear hr29 hC29 hroom29 hi029 hsz29 hc29;have KY29 := Aside0.mk hy29;have KA29 := Aside0.mk hA29;clear hy29 hA29;replace q29 := eq_true q29;obtain ⟨Ao32,co32,eo32⟩ := Kd.R_slice HO266.out;subst eo32;have n_ := Aside0.mk (Kd.R_mono (ok' := (fun k_ => (w.heap.size ≤ k_))) HO266.out (fun k_ hk => hk.1));clear HO266;have HO266 := n_;clear n_) | ((with_reducible refine gate_builtin (b := .copy) (xs := #[.tmp 37,.tmp 40]) rfl ?_);refine Kd.R_copy (enc := (Value.int .u32)) (h1 := fun _ => rfl) 0 (w0 := w) w.heap.size rfl (.tmp 37) (.tmp 40) 24 24 43 rfl Tryd.underlying24 (by kernel_rfl) (.slice Ao32 y264.length co32) y264 y267 _ _ _ (fun k_ => (w.heap.size ≤ k_)) rfl rfl ?aO ?aR ?aB ?aS ?_;(case aO => exact (ra_ HO266.out));(case aR => exact ca_ (Kd.V_reads' HO271.out).2.2);(case aB => exact bl_);(case aS => exact (below_size bl_));intro w31 ho hb hg;have hp_ : Kd.R (Kd.int .u32) 43 w31 w.heap.size (fun k_ => (w.heap.size ≤ k_)) (.slice Ao32 y264.length co32) y272 := (by rw [Ny272.out];exact ho);clear ho;replace HO0 := Aside0.mk (Kd.V_afterv (v := (.slice Ao32 y264.length co32)) (v1 := (.slice Ao32 y264.length co32)) (ok := (fun k_ => (P0_ k_ ∨ w.heap.size ≤ k_) ∧ some k_ ≠ (.slice Ao24 y248.length co24 : Value).ownBlock)) (va_ HO0.out) hg (.inl rfl));replace HO250 := Aside0.mk (Kd.N_afterv (v := (.slice Ao32 y264.length co32)) (v1 := (.slice Ao32 y264.length co32)) (ok := (fun k_ => (P0_ k_ ∨ w.heap.size ≤ k_))) (by (with_reducible repeat (first | apply Kd.N_alloc | apply Kd.N_drewN | apply Kd.N_drew));exact HO250.out) hg (.inl rfl));replace HO257 := Aside0.mk (Kd.V_afterv (v := (.slice Ao32 y264.length co32)) (v1 := (.slice Ao32 y264.length co32)) (ok := (fun k_ => (P0_ k_ ∨ w.heap.size ≤ k_) ∧ some k_ ≠ (.slice Ao24 y248.length co24 : Value).ownBlock)) (va_ HO257.out) hg (.inl rfl));replace HO262 := Aside0.mk (Kd.V_afterv (v := (.slice Ao32 y264.length co32)) (v1 := (.slice Ao32 y264.length co32)) (ok := (fun k_ => (P0_ k_ ∨ w.heap.size ≤ k_) ∧ some k_ ≠ (.slice Ao24 y248.length co24 : Value).ownBlock)) (va_ HO262.out) hg (.inl rfl));replace HO266 := Aside0.mk (hp_);replace HO271 := Aside0.mk (Kd.V_afterv (v := (.slice Ao32 y264.length co32)) (v1 := (.slice Ao32 y264.length co32)) (ok := (fun k_ => (P0_ k_ ∨ w.heap.size ≤ k_) ∧ some k_ ≠ (.slice Ao24 y248.length co24 : Value).ownBlock)) (va_ HO271.out) hg (.inl rfl));replace HB := Aside0.mk (hb);clear hb hg hp_));go_upto_region 11 with (first | ((with_reducible refine gate_dst (N := 18) rfl ?_);refine Kd.N_lit (Kd.slice 43 (Kd.int .u32)) _ 24 ?hg (N' := 18) ?hd (xs := ([l0] : List (List Int))) (inner := [.slice A0 l0.length c0]) (ok := (fun k_ => (P0_ k_ ∨ w.heap.size ≤ k_))) (okp := (fun k_ => (P0_ k_ ∨ w.heap.size ≤ k_))) ?hr ?hp (fun _ hk => hk) ((show ∀ k_,w.heap.size ≤ k_ → (fun k_ => (P0_ k_ ∨ w.heap.size ≤ k_)) k_ from fun k_ hk => (.inr (Nat.le_trans (below_size bl_) hk))) _ (Nat.le_refl _)) (Below.refl _ _) (Nat.le_refl _) (by simp) ?_;(case hd => rfl);(case hg => rfl);(case hr => first | (go_simp;done) | (go_simp;rfl));(case hp => exact (Reps.one (show Kd.FK (Kd.slice 43 (Kd.int .u32)) _ _ l0 [.slice A0 l0.length c0] from (Kd.FK_slice_mk (Kd.V_reads' (Kd.V_mono (ok' := (fun k_ => (P0_ k_ ∨ w.heap.size ≤ k_))) (HO0.out) (fun k_ hk => hk))).2.1 (Kd.V_F (Kd.V_mono (ok' := (fun k_ => (P0_ k_ ∨ w.heap.size ≤ k_))) (HO0.out) (fun k_ hk => hk))))) (Reps.none _ _)));intro v249 w22 ho23 hb hg_ hnew_;clear hg_ hnew_;(first | rw [← Ny248.out] at ho23 | (simp only [Int.reduceToNat] at ho23;rw [← Ny248.out] at ho23));replace HO0 := Aside0.mk (Kd.V_elder' (va_ HO0.out) (Kd.N_base ho23) hb);have HO250 := Aside0.mk (Kd.N_lower ho23 (below_size bl_));replace HB := Aside0.mk (below_step bl_ hb);clear hb ho23;obtain ⟨Ao24,co24,eo24⟩ := Kd.N_slice HO250.out;subst eo24) | (go_at_call 24;(with_reducible refine (nat_over.calls k _ _ y248 false _ ?side1 ?side2 A4.out).mono ?_);(case side1 => exact ca_ (Kd.N_reads' HO250.out).2.2);(case side2 => exact (Kd.N_reads' HO250.out).2.1);rintro e w' ⟨rfl,⟨nd,rfl⟩⟩;(try first | exact ⟨rfl,_,World.drewN_drewN _ _ _⟩ | exact ⟨rfl,_,Eq.trans (World.drewN_drewN _ _ _) (congrArg (World.drewN _) (Nat.add_assoc _ _ _))⟩)) | (go_at_call 25;(with_reducible refine (nat_cut_read.calls (l' := y253) (hl' := Ny253.out) k _ _ l0 t252 _ ?side1 ?side2 A9.out).mono ?_);(case side1 => exact ca_ (Kd.V_reads' HO0.out).2.2);(case side2 => exact (Kd.V_reads' HO0.out).2.1);rintro e w' ⟨rfl,⟨nd,rfl⟩⟩;(try first | exact ⟨rfl,_,World.drewN_drewN _ _ _⟩ | exact ⟨rfl,_,Eq.trans (World.drewN_drewN _ _ _) (congrArg (World.drewN _) (Nat.add_assoc _ _ _))⟩);have q25 : (t252 : Int) ≤ ((l0.length : Int) : Int) := od_;obtain ⟨i025,hi025,_,hsz25,_⟩ := info_parts info43;have hroom25 : l0.length ≤ c0 := (Kd.V_reads' HO0.out).2.1;have hC25 : Kd.F (Kd.int .u32) _ _ A0 l0.length l0 := (Kd.V_at (base := w.heap.size) HO0.out).2.2;have hcut25 := cut_to (P := Tryd.prog) 24 43 .i64 Tryd.underlying24 hi025 A0 l0.length c0 t252 od_ q25 hroom25;have hr25 := Kd.F_take (m := (t252 : Int).toNat) hC25 (by omega);have hy25 : y253.length = (t252 : Int).toNat := (by rw [Ny253.out,List.length_take];omega);rw [← Ny253.out] at hr25;rw [← hy25] at hcut25;have HO257 := Aside0.mk (show Kd.V (Kd.int .u32) 43 _ w.heap.size _ (.slice A0 y253.length c0) y253 from Kd.V_mk (by omega) hr25);have HC257 := Aside0.mk (show y253.length ≤ c0 from by omega);clear hr25 hC25 hroom25 hi025 hsz25;have KY25 := Aside0.mk hy25;clear hy25;replace q25 := eq_true q25;have q26 : ((ji12) : Int) ≤ ((y253.length : Int) : Int) := od_;obtain ⟨i026,hi026,_,hsz26,_⟩ := info_parts info43;have hroom26 : y253.length ≤ c0 := (Kd.V_reads' HO257.out).2.1;have hC26 : Kd.F (Kd.int .u32) _ _ A0 y253.length y253 := (Kd.V_at (base := w.heap.size) HO257.out).2.2;have hcut26 := cut_to (P := Tryd.prog) 24 43 .i64 Tryd.underlying24 hi026 A0 y253.length c0 (ji12) od_ q26 hroom26;have hr26 := Kd.F_take (m := ((ji12) : Int).toNat) hC26 (by omega);have hy26 : y258.length = ((ji12) : Int).toNat := (by rw [Ny258.out,List.length_take];omega);rw [← Ny258.out] at hr26;rw [← hy26] at hcut26;have HO262 := Aside0.mk (show Kd.V (Kd.int .u32) 43 _ w.heap.size _ (.slice A0 y258.length c0) y258 from Kd.V_mk (by omega) hr26);have HC262 := Aside0.mk (show y258.length ≤ c0 from by omega);clear hr26 hC26 hroom26 hi026 hsz26;have KY26 := Aside0.mk hy26;clear hy26;replace q26 := eq_true q26) | (go_at_call 29;(with_reducible refine (nat_right.calls k _ _ y258 t263 _ ?side1 ?side2 A15.out).mono ?_);(case side1 => exact ca_ (Kd.V_reads' HO262.out).2.2);(case side2 => exact (Kd.V_reads' HO262.out).2.1);rintro e w' ⟨rfl,⟨nd,rfl⟩⟩;(try first | exact ⟨rfl,_,World.drewN_drewN _ _ _⟩ | exact ⟨rfl,_,Eq.trans (World.drewN_drewN _ _ _) (congrArg (World.drewN _) (Nat.add_assoc _ _ _))⟩)) | ((with_reducible refine gate_dst (N := 36) rfl ?_);refine Kd.R_make (Kd.int .u32) _ 43 rfl (N := 36) rfl 24 _ _ rfl ji16 rfl rfl Tryd.underlying24 (.int .u32 0) 4 info43 rfl (by decide) (by omega) 0 (ok := fun _ => True) (okp := fun _ => True) rfl (fun _ hk => hk) trivial od_ (Nat.le_trans (Nat.mul_le_mul_right _ (od_ : ji16.toNat ≤ 70368744177664)) (by omega)) (Below.refl _ _) (Nat.le_refl _) ?_;intro v265 w27 ho28 hb hg_ hnew_;clear hg_ hnew_;(first | rw [← Ny264.out] at ho28 | (simp only [Int.reduceToNat] at ho28;rw [← Ny264.out] at ho28));replace HO0 := Aside0.mk (Kd.V_elder' (va_ HO0.out) (Kd.R_base ho28) hb);replace HO250 := Aside0.mk (Kd.N_elder' (by (with_reducible repeat (first | apply Kd.N_alloc | apply Kd.N_drewN | apply Kd.N_drew));exact HO250.out) (Kd.R_base ho28) hb);replace HO257 := Aside0.mk (Kd.V_elder' (va_ HO257.out) (Kd.R_base ho28) hb);replace HO262 := Aside0.mk (Kd.V_elder' (va_ HO262.out) (Kd.R_base ho28) hb);have HO266 := Aside0.mk (Kd.R_lower (Kd.R_newM (M := fun k_ => (w.heap.size ≤ k_)) ho28 (below_size bl_) (fun k_ h_ => h_)) (below_size bl_));replace HB := Aside0.mk (below_step bl_ hb);clear hb ho28;(try clear hcut25);(try clear hcut26);have q29 : ((ji12) : Int) ≤ ((y253.length : Int) : Int) := od_;obtain ⟨i029,hi029,_,hsz29,_⟩ := info_parts info43;have hroom29 : y253.length ≤ c0 := (Kd.V_reads' HO257.out).2.1;have hC29 : Kd.F (Kd.int .u32) _ _ A0 y253.length y253 := (Kd.V_at (base := w.heap.size) HO257.out).2.2;have q029 : (0 : Int) ≤ ((ji12) : Int) := od_;have hcut29 := cut_from (P := Tryd.prog) 24 43 .i64 Tryd.underlying24 hi029 1 hsz29 A0 y253.length c0 (ji12) q029 q29;have hr29 := Kd.F_cut (m := ((ji12) : Int).toNat) (c := c0) hC29 (by omega) hroom29;obtain ⟨A29,hA29⟩ : ∃ A1,A1 = (if c0 = ((ji12) : Int).toNat then A0 else (A0 : Option Addr).map (·.add (((ji12) : Int).toNat * 1))) := ⟨_,rfl⟩;obtain ⟨c29,hc29⟩ : ∃ c1,c1 = c0 - ((ji12) : Int).toNat := ⟨_,rfl⟩;have hy29 : y267.length = y253.length - ((ji12) : Int).toNat := (by rw [Ny267.out,List.length_drop] <;> omega);rw [show (y253).drop ((ji12) : Int).toNat = y267 from Ny267.out.symm] at hr29;replace hr29 : Kd.F (Kd.int .u32) _ _ A29 y267.length y267 := (by rw [hA29];exact hr29);rw [← hy29,← hA29,← hc29] at hcut29;have HO271 := Aside0.mk (show Kd.V (Kd.int .u32) 43 _ w.heap.size _ (.slice A29 y267.length c29) y267 from Kd.V_mk (by rw [hy29,hc29];exact Nat.sub_le_sub_right hroom29 _) hr29);have HC271 := Aside0.mk (show y267.length ≤ c29 from by rw [hy29,hc29];exact Nat.sub_le_sub_right hroom29 _);have KC29 := Aside0.mk hc29;clear hr29 hC29 hroom29 hi029 hsz29 hc29;have KY29 := Aside0.mk hy29;have KA29 := Aside0.mk hA29;clear hy29 hA29;replace q29 := eq_true q29;obtain ⟨Ao32,co32,eo32⟩ := Kd.R_slice HO266.out;subst eo32;have n_ := Aside0.mk (Kd.R_mono (ok' := (fun k_ => (w.heap.size ≤ k_))) HO266.out (fun k_ hk => hk.1));clear HO266;have HO266 := n_;clear n_) | ((with_reducible refine gate_builtin (b := .copy) (xs := #[.tmp 37,.tmp 40]) rfl ?_);refine Kd.R_copy (enc := (Value.int .u32)) (h1 := fun _ => rfl) 0 (w0 := w) w.heap.size rfl (.tmp 37) (.tmp 40) 24 24 43 rfl Tryd.underlying24 (by kernel_rfl) (.slice Ao32 y264.length co32) y264 y267 _ _ _ (fun k_ => (w.heap.size ≤ k_)) rfl rfl ?aO ?aR ?aB ?aS ?_;(case aO => exact (ra_ HO266.out));(case aR => exact ca_ (Kd.V_reads' HO271.out).2.2);(case aB => exact bl_);(case aS => exact (below_size bl_));intro w31 ho hb hg;have hp_ : Kd.R (Kd.int .u32) 43 w31 w.heap.size (fun k_ => (w.heap.size ≤ k_)) (.slice Ao32 y264.length co32) y272 := (by rw [Ny272.out];exact ho);clear ho;replace HO0 := Aside0.mk (Kd.V_afterv (v := (.slice Ao32 y264.length co32)) (v1 := (.slice Ao32 y264.length co32)) (ok := (fun k_ => (P0_ k_ ∨ w.heap.size ≤ k_) ∧ some k_ ≠ (.slice Ao24 y248.length co24 : Value).ownBlock)) (va_ HO0.out) hg (.inl rfl));replace HO250 := Aside0.mk (Kd.N_afterv (v := (.slice Ao32 y264.length co32)) (v1 := (.slice Ao32 y264.length co32)) (ok := (fun k_ => (P0_ k_ ∨ w.heap.size ≤ k_))) (by (with_reducible repeat (first | apply Kd.N_alloc | apply Kd.N_drewN | apply Kd.N_drew));exact HO250.out) hg (.inl rfl));replace HO257 := Aside0.mk (Kd.V_afterv (v := (.slice Ao32 y264.length co32)) (v1 := (.slice Ao32 y264.length co32)) (ok := (fun k_ => (P0_ k_ ∨ w.heap.size ≤ k_) ∧ some k_ ≠ (.slice Ao24 y248.length co24 : Value).ownBlock)) (va_ HO257.out) hg (.inl rfl));replace HO262 := Aside0.mk (Kd.V_afterv (v := (.slice Ao32 y264.length co32)) (v1 := (.slice Ao32 y264.length co32)) (ok := (fun k_ => (P0_ k_ ∨ w.heap.size ≤ k_) ∧ some k_ ≠ (.slice Ao24 y248.length co24 : Value).ownBlock)) (va_ HO262.out) hg (.inl rfl));replace HO266 := Aside0.mk (hp_);replace HO271 := Aside0.mk (Kd.V_afterv (v := (.slice Ao32 y264.length co32)) (v1 := (.slice Ao32 y264.length co32)) (ok := (fun k_ => (P0_ k_ ∨ w.heap.size ≤ k_) ∧ some k_ ≠ (.slice Ao24 y248.length co24 : Value).ownBlock)) (va_ HO271.out) hg (.inl rfl));replace HB := Aside0.mk (hb);clear hb hg hp_)))
         (try simp only [Act.put,List.setIfInBounds_toArray,List.set_cons_zero,List.set_cons_succ])
         go_cut [52] (fun v52 wc => ∃ (kq : Nat) (x52_20 : Bool),v52 = .bool x52_20 ∧ Aside0 (nat_Shr.j0 kq (decide (t263 > 0)) y272 (Int.tmod a1 32) x52_20 = some (r1,r2,r3)) ∧ Aside0 (kq ≤ k) ∧ Aside0 (Kd.R (Kd.int .u32) 43 wc w.heap.size (fun k_ => (w.heap.size ≤ k_)) (.slice Ao32 y264.length co32) y272) ∧ Aside0 (Below w.heap.size w wc))
         case first =>
          have H := HC21.out
          clear HC21
          by_cases c33 : (y264.length : Int) = 0
          ·rw [if_pos c33] at H
           have c33b0 : ((y264.length : Int) == 0) = true := beq_iff_eq.mpr c33
           have c33b1 : ((y264.length : Int) != 0) = false := bne_eq_false_iff_eq.mpr c33
           clear c33
           (first | rw [c33b0] | (simp only [i64_w,i32_w];rw [c33b0]) | rw [c33b1] | (simp only [i64_w,i32_w];rw [c33b1]) | skip)
           have H' := Aside0.mk H
           clear H
           go_wp2
           repeat (go_quiet (fail);try go_wp2)
           go_meet
           case rel => exact ⟨_,(true),(by first | rfl | (simp;done) | (simp [*];done)),H',⟨by first | omega | exact Nat.le_refl _⟩,⟨by (with_reducible repeat (first | apply Kd.R_alloc | apply Kd.R_drewN | apply Kd.R_drew));exact HO266.out⟩,⟨by repeat (first | (with_reducible first | exact HB.out | apply below_alloc | apply pw_below_drewN | apply below_drew1) | exact HB.out)⟩⟩
          ·rw [if_neg c33] at H
           have c33b0 : ((y264.length : Int) == 0) = false := beq_eq_false_iff_ne.mpr c33
           have c33b1 : ((y264.length : Int) != 0) = true := bne_iff_ne.mpr c33
           have c33b2 : ¬ (y264 = []) := fun h_ => c33 (by rw [h_];rfl)
           (first | rw [c33b0] | (simp only [i64_w,i32_w];rw [c33b0]) | rw [c33b1] | (simp only [i64_w,i32_w];rw [c33b1]) | skip)
           have H' := Aside0.mk H
           clear H
           go_wp2
           repeat (go_quiet (fail);try go_wp2)
           go_meet
           case rel => exact ⟨_,(decide ((ji12) < (wrap64 (Int.tdiv a1 32)))),(by first | rfl | (simp;done) | (simp only [← hji12] <;> (first | rfl | simp)) | (simp [*];done)),H',⟨by first | omega | exact Nat.le_refl _⟩,⟨by (with_reducible repeat (first | apply Kd.R_alloc | apply Kd.R_drewN | apply Kd.R_drew));exact HO266.out⟩,⟨by repeat (first | (with_reducible first | exact HB.out | apply below_alloc | apply pw_below_drewN | apply below_drew1) | exact HB.out)⟩⟩
         case rest =>
          clear HC21
          try clear c1
          try clear c2
          try clear p2
          try clear q2
          try clear c3
          try clear c3b0
          try clear c5
          try clear p6
          try clear c10
          try clear c10b0
          try clear c10b1
          try clear c11
          try clear c11b0
          try clear c11b1
          try clear c13
          try clear c13b0
          try clear c13b1
          try clear c14
          try clear c14b0
          try clear c14b1
          try clear c17
          try clear c17b0
          try clear c17b1
          try clear c18
          try clear c18b0
          try clear c18b1
          try clear c19
          try clear c19b0
          try clear c20
          try clear c20b0
          try clear q25
          try clear q26
          try clear c29
          try clear q29
          try clear c33
          try clear c33b0
          try clear c33b1
          try clear c33b2
          try clear q029
          try clear q25
          try clear q26
          try clear q29
          obtain ⟨kq,x52_20,rfl,HA,HJ20,HO_9,HB⟩ := hcut
          have hl9_20 := (Kd.R_reads' HO_9.out).1
          rw [hl9_20] at HO_9
          (try simp only [hl9_20])
          cases kq with
          | zero => exact absurd HA.out (by simp [nat_Shr.j0])
          | succ kj20 =>
           have H := HA.out
           clear HA
           simp only [nat_Shr.j0] at H
           by_cases c34 : x52_20 = true
           ·subst c34
            have H1 : (some (([] : List Int),(decide (t263 > 0)),0)) = some (r1,r2,r3) := by rw [if_pos rfl] at H;exact H
            clear H
            have H := H1
            clear H1
            simp only [Option.some.injEq,Prod.mk.injEq] at H
            obtain ⟨rfl,rfl,rfl⟩ := H
            go_wp2
            repeat (go_quiet (fail);try go_wp2)
            go_ret3
            exact ⟨_,by first | rfl | (simp [errW_none,errW_some] <;> rfl) | (simp only [← hji12,← hji16];first | rfl | (simp [errW_none,errW_some] <;> rfl)) | (simp [*,errW_none,errW_some] <;> rfl),by first | exact Kd.R_nil _ _ _ _ _ | exact Kd.N_nil _ _ _ _ _ | exact Kd.V_nil _ _ _ _ _ | exact Kd.Q_nil _ _ _ _ _ | exact Kd.S_nil _ _ _ _ _,by repeat (first | (with_reducible first | exact HB.out | apply below_alloc | apply pw_below_drewN | apply below_drew1) | exact HB.out)⟩
           ·replace c34 := Bool.eq_false_iff.mpr c34
            subst c34
            have H1 : (if (decide (t263 > 0)) = true then (nat_Shr.j1 kj20 true y272 (Int.tmod a1 32)) else (if 0 < (y272.length : Int) then (if 0 ≤ (Int.tmod a1 32) then (nat_Shr.j1 kj20 ((Go.bits .and .u32 (rd y272 0) (((shl .u32 1 (Int.tmod a1 32)) - 1) % 4294967296)) != 0) y272 (Int.tmod a1 32)) else (none)) else (none))) = some (r1,r2,r3) := by rw [if_neg (show ¬ (false = true) by decide)] at H;exact H
            clear H
            have H := H1
            clear H1
            have HC35 := Aside0.mk H
            clear H
            go_upto_region 13 with (fail)
            repeat (go_quiet (fail);go_upto_region 13 with (fail))
            go_cut [8] (fun v8 wc => ∃ (kq : Nat) (x8_34 : Bool),v8 = .bool x8_34 ∧ Aside0 (nat_Shr.j1 kq x8_34 y272 (Int.tmod a1 32) = some (r1,r2,r3)) ∧ Aside0 (kq ≤ kj20) ∧ Aside0 (Kd.R (Kd.int .u32) 43 wc w.heap.size (fun k_ => (w.heap.size ≤ k_)) (.slice Ao32 y272.length co32) y272) ∧ Aside0 (Below w.heap.size w wc))
            case first =>
             have H := HC35.out
             clear HC35
             by_cases c36 : (decide (t263 > 0)) = true
             ·rw [if_pos c36] at H
              have c36b0 : (decide (t263 > 0)) = true := c36
              clear c36
              (first | rw [c36b0] | (simp only [i64_w,i32_w];rw [c36b0]) | rw [c36b1] | (simp only [i64_w,i32_w];rw [c36b1]) | skip)
              have H' := Aside0.mk H
              clear H
              go_wp2
              repeat (go_quiet (fail);try go_wp2)
              go_meet
              case rel => exact ⟨_,(true),(by first | rfl | (simp;done) | (simp [*];done)),(by first | exact H' | (rw [hji12];exact H') | (rw [hji16];exact H') | (rw [hji38];exact H') | (rw [hji40];exact H') | (rw [hji45];exact H') | (rw [hji47];exact H') | (rw [hji49];exact H') | (rw [hji53];exact H') | (rw [hji55];exact H')),⟨by have := HJ20.out;first | omega | exact Nat.le_refl _⟩,⟨by (try simp only [hl9_20]);(with_reducible repeat (first | apply Kd.R_alloc | apply Kd.R_drewN | apply Kd.R_drew));exact HO_9.out⟩,⟨by repeat (first | (with_reducible first | exact HB.out | apply below_alloc | apply pw_below_drewN | apply below_drew1) | exact HB.out)⟩⟩
             ·rw [if_neg c36] at H
              have c36b0 : (decide (t263 > 0)) = false := by simpa using c36
              clear c36
              (first | rw [c36b0] | (simp only [i64_w,i32_w];rw [c36b0]) | rw [c36b1] | (simp only [i64_w,i32_w];rw [c36b1]) | skip)
              by_cases c37 : 0 < (y272.length : Int)
              ·rw [if_pos c37] at H
               have c37b0 : decide (0 < (y272.length : Int)) = true := decide_eq_true c37
               have c37b0h := c37b0
               (try simp only [hl9_20] at c37b0h)
               have c37b1 : decide (0 < y272.length) = true := decide_eq_true (by omega)
               have c37b1h := c37b1
               (try simp only [hl9_20] at c37b1h)
               clear c37
               obtain ⟨ji38,hji38⟩ : ∃ j_ : Int,(Int.tmod a1 32) = j_ := ⟨_,rfl⟩
               replace H : (if 0 ≤ (ji38) then (nat_Shr.j1 kj20 ((Go.bits .and .u32 (rd y272 0) (((shl .u32 1 (ji38)) - 1) % 4294967296)) != 0) y272 (ji38)) else (none)) = some (r1,r2,r3) := by first | (rw [hji38] at H;exact H) | (simp only [hji38] at H ⊢;exact H)
               by_cases c39 : 0 ≤ (ji38)
               ·rw [if_pos c39] at H
                have c39b0 := eq_true c39
                have c39b1 : decide (0 ≤ (ji38)) = true := decide_eq_true c39
                clear c39
                obtain ⟨ji40,hji40⟩ : ∃ j_ : Int,(shl .u32 1 (ji38)) = j_ := ⟨_,rfl⟩
                replace H : (nat_Shr.j1 kj20 ((Go.bits .and .u32 (rd y272 0) (((ji40) - 1) % 4294967296)) != 0) y272 (ji38)) = some (r1,r2,r3) := by first | (rw [hji40] at H;exact H) | (simp only [hji40] at H ⊢;exact H)
                have hji40_ : (IntKind.u32.wrap (1 * 2 ^ min (ji38).toNat 32)) = ji40 := hji40
                have hji40z : (ji38) ≤ 32 → (IntKind.u32.wrap (1 * 2 ^ (ji38).toNat)) = ji40 := shl_small hji40
                have hji40u : (IntKind.u32.wrap (2 ^ min (ji38).toNat 32)) = ji40 := by have h_ := hji40_;rw [Int.one_mul] at h_;exact h_
                have hji40v : (ji38) ≤ 32 → (IntKind.u32.wrap (2 ^ (ji38).toNat)) = ji40 := fun hle_ => by have h_ := hji40z hle_;rw [Int.one_mul] at h_;exact h_
                have H' := Aside0.mk H
                clear H
                have p273 : 0 ≤ (0 : Int) := (by omega)
                have q273 : 0 < (y272.length : Int) := od_
                obtain ⟨ad273,e273,hx273_0⟩ := Kd.at_int (Kd.R_reads' HO_9.out).2.2 0 p273 q273
                cases e273
                have qi273 : (0 < y272.length) = True := eq_true (by omega)
                (try rw [show ((0 : Int)).toNat = 0 from rfl] at hx273_0)
                (try rw [Addr.add_zero'] at hx273_0)
                replace p273 := eq_true p273
                replace q273 := eq_true q273
                go_wp2
                repeat (go_quiet (fail);try go_wp2)
                go_meet
                case rel => exact ⟨_,(((Go.bits .and .u32 (rd y272 0) (((ji40) - 1) % 4294967296)) != 0)),(by first | rfl | (simp;done) | (simp only [← hji40] <;> (first | rfl | simp)) | (simp [*];done)),(by first | exact H' | (rw [hji12];exact H') | (rw [hji16];exact H') | (rw [hji38];exact H') | (rw [hji40];exact H') | (rw [hji45];exact H') | (rw [hji47];exact H') | (rw [hji49];exact H') | (rw [hji53];exact H') | (rw [hji55];exact H')),⟨by have := HJ20.out;first | omega | exact Nat.le_refl _⟩,⟨by (try simp only [hl9_20]);(with_reducible repeat (first | apply Kd.R_alloc | apply Kd.R_drewN | apply Kd.R_drew));exact HO_9.out⟩,⟨by repeat (first | (with_reducible first | exact HB.out | apply below_alloc | apply pw_below_drewN | apply below_drew1) | exact HB.out)⟩⟩
               ·rw [if_neg c39] at H
                exact absurd H (by simp)
              ·rw [if_neg c37] at H
               exact absurd H (by simp)
            case rest =>
             clear HC35
             try clear c1
             try clear c2
             try clear p2
             try clear q2
             try clear hx2
             try clear qi2
             try clear c3
             try clear c3b0
             try clear c5
             try clear p6
             try clear c10
             try clear c10b0
             try clear c10b1
             try clear c11
             try clear c11b0
             try clear c11b1
             try clear c13
             try clear c13b0
             try clear c13b1
             try clear c14
             try clear c14b0
             try clear c14b1
             try clear c17
             try clear c17b0
             try clear c17b1
             try clear c18
             try clear c18b0
             try clear c18b1
             try clear c19
             try clear c19b0
             try clear c20
             try clear c20b0
             try clear q25
             try clear q26
             try clear p27
             try clear q27
             try clear hx27
             try clear qi27
             try clear c29
             try clear q29
             try clear c33
             try clear c33b0
             try clear c33b1
             try clear c33b2
             try clear c34
             try clear c36
             try clear c36b0
             try clear c36b1
             try clear c37
             try clear c37b0
             try clear c37b1
             try clear c39
             try clear c39b0
             try clear c39b1
             try clear hx273_0
             try clear p2
             try clear p273
             try clear p6
             try clear q029
             try clear q2
             try clear q25
             try clear q26
             try clear q273
             try clear q29
             obtain ⟨kq,x8_34,rfl,HA,HJ34,HO_9,HB⟩ := hcut
             cases kq with
             | zero => exact absurd HA.out (by simp [nat_Shr.j1])
             | succ kj34 =>
              have H := HA.out
              clear HA
              simp only [nat_Shr.j1] at H
              have H' := Aside0.mk H
              clear H
              go_wp2
              repeat (go_quiet (fail);try go_wp2)
              go_loopg [67] kj34 (fun kq v67 w' => ∃ (x9_3 : List Int) (x67_3 : Int),v67 = .int .i64 x67_3 ∧ Aside0 (nat_Shr.l0 kq x8_34 x9_3 (Int.tmod a1 32) (y272.length : Int) x67_3 = some (r1,r2,r3)) ∧ Aside0 (kq ≤ kj34) ∧ Aside0 (Kd.R (Kd.int .u32) 43 w' w.heap.size (fun k_ => (w.heap.size ≤ k_)) (.slice Ao32 y272.length co32) x9_3) ∧ Aside0 (Below w.heap.size w w'))
              case atStart => exact ⟨(y272),(0),(by first | rfl | (simp;done) | (simp [*];done)),H',⟨Nat.le_refl _⟩,⟨by (try simp only [hl9_20]);(with_reducible repeat (first | apply Kd.R_alloc | apply Kd.R_drewN | apply Kd.R_drew));exact HO_9.out⟩,⟨by repeat (first | (with_reducible first | exact HB.out | apply below_alloc | apply pw_below_drewN | apply below_drew1) | exact HB.out)⟩⟩
              case round =>
               clear H'
               try clear c1
               try clear c2
               try clear p2
               try clear q2
               try clear hx2
               try clear qi2
               try clear c3
               try clear c3b0
               try clear c5
               try clear p6
               try clear c10
               try clear c10b0
               try clear c10b1
               try clear c11
               try clear c11b0
               try clear c11b1
               try clear c13
               try clear c13b0
               try clear c13b1
               try clear c14
               try clear c14b0
               try clear c14b1
               try clear c17
               try clear c17b0
               try clear c17b1
               try clear c18
               try clear c18b0
               try clear c18b1
               try clear c19
               try clear c19b0
               try clear c20
               try clear c20b0
               try clear q25
               try clear q26
               try clear p27
               try clear q27
               try clear hx27
               try clear qi27
               try clear c29
               try clear q29
               try clear c33
               try clear c33b0
               try clear c33b1
               try clear c33b2
               try clear c34
               try clear c36
               try clear c36b0
               try clear c36b1
               try clear c37
               try clear c37b0
               try clear c37b1
               try clear c39
               try clear c39b0
               try clear c39b1
               try clear hx273_0
               try clear p2
               try clear p27
               try clear p273
               try clear p6
               try clear q029
               try clear q2
               try clear q25
               try clear q26
               try clear q27
               try clear q273
               try clear q29
               obtain ⟨x9_3,x67_3,rfl,HA,HK3,HO_9,HB⟩ := hrel
               have hl9_3 := (Kd.R_reads' HO_9.out).1
               rw [hl9_3] at HO_9
               (try simp only [hl9_3])
               cases gk with
               | zero => exact absurd HA.out (by simp [nat_Shr.l0])
               | succ k3 =>
                have H := HA.out
                clear HA
                simp only [nat_Shr.l0] at H
                by_cases c41 : x67_3 < (y272.length : Int)
                ·rw [if_pos c41] at H
                 have c41b0 : decide (x67_3 < (y272.length : Int)) = true := decide_eq_true c41
                 have c41b0h := c41b0
                 (try simp only [hl9_20,hl9_3] at c41b0h)
                 clear c41
                 by_cases c42 : 0 ≤ x67_3
                 ·rw [if_pos c42] at H
                  have c42b0 : decide (0 ≤ x67_3) = true := decide_eq_true c42
                  clear c42
                  by_cases c43 : x67_3 < (x9_3.length : Int)
                  ·rw [if_pos c43] at H
                   have c43b0 : decide (x67_3 < (x9_3.length : Int)) = true := decide_eq_true c43
                   have c43b0h := c43b0
                   (try simp only [hl9_20,hl9_3] at c43b0h)
                   clear c43
                   by_cases c44 : (wrap64 (x67_3 + 1)) < (x9_3.length : Int)
                   ·rw [if_pos c44] at H
                    have c44b0 : decide ((wrap64 (x67_3 + 1)) < (x9_3.length : Int)) = true := decide_eq_true c44
                    have c44b0h := c44b0
                    (try simp only [hl9_20,hl9_3] at c44b0h)
                    clear c44
                    obtain ⟨ji45,hji45⟩ : ∃ j_ : Int,(wrap64 (x67_3 + 1)) = j_ := ⟨_,rfl⟩
                    replace H : (if 0 ≤ (ji45) then (if 0 ≤ (Int.tmod a1 32) then (nat_Shr.l0 k3 x8_34 (x9_3.set (x67_3 : Int).toNat ((shr .u64 (Go.bits .or .u64 (IntKind.u64.wrap (rd x9_3 x67_3)) (IntKind.u64.wrap ((IntKind.u64.wrap (rd x9_3 (ji45))) * 4294967296))) (Int.tmod a1 32)) % 4294967296)) (Int.tmod a1 32) (y272.length : Int) ji45) else (none)) else (none)) = some (r1,r2,r3) := by first | (rw [hji45] at H;exact H) | (simp only [hji45] at H ⊢;exact H)
                    (try rw [hji45] at c44b0)
                    have hji45w : (IntKind.i64.wrap (x67_3 + 1)) = ji45 := (i64_w _).trans hji45
                    by_cases c46 : 0 ≤ (ji45)
                    ·rw [if_pos c46] at H
                     have c46b0 : decide (0 ≤ (ji45)) = true := decide_eq_true c46
                     clear c46
                     obtain ⟨ji47,hji47⟩ : ∃ j_ : Int,(Int.tmod a1 32) = j_ := ⟨_,rfl⟩
                     replace H : (if 0 ≤ (ji47) then (nat_Shr.l0 k3 x8_34 (x9_3.set (x67_3 : Int).toNat ((shr .u64 (Go.bits .or .u64 (IntKind.u64.wrap (rd x9_3 x67_3)) (IntKind.u64.wrap ((IntKind.u64.wrap (rd x9_3 (ji45))) * 4294967296))) (ji47)) % 4294967296)) (ji47) (y272.length : Int) ji45) else (none)) = some (r1,r2,r3) := by first | (rw [hji47] at H;exact H) | (simp only [hji47] at H ⊢;exact H)
                     by_cases c48 : 0 ≤ (ji47)
                     ·rw [if_pos c48] at H
                      have c48b0 := eq_true c48
                      have c48b1 : decide (0 ≤ (ji47)) = true := decide_eq_true c48
                      clear c48
                      obtain ⟨ji49,hji49⟩ : ∃ j_ : Int,(shr .u64 (Go.bits .or .u64 (IntKind.u64.wrap (rd x9_3 x67_3)) (IntKind.u64.wrap ((IntKind.u64.wrap (rd x9_3 (ji45))) * 4294967296))) (ji47)) = j_ := ⟨_,rfl⟩
                      replace H : (nat_Shr.l0 k3 x8_34 (x9_3.set (x67_3 : Int).toNat ((ji49) % 4294967296)) (ji47) (y272.length : Int) ji45) = some (r1,r2,r3) := by first | (rw [hji49] at H;exact H) | (simp only [hji49] at H ⊢;exact H)
                      have hji49_ : ((Go.bits .or .u64 (IntKind.u64.wrap (rd x9_3 x67_3)) (IntKind.u64.wrap ((IntKind.u64.wrap (rd x9_3 (ji45))) * 4294967296))) / 2 ^ min (ji47).toNat 64) = ji49 := hji49
                      have hji49z : (ji47) ≤ 64 → ((Go.bits .or .u64 (IntKind.u64.wrap (rd x9_3 x67_3)) (IntKind.u64.wrap ((IntKind.u64.wrap (rd x9_3 (ji45))) * 4294967296))) / 2 ^ (ji47).toNat) = ji49 := shr_small hji49
                      obtain ⟨y276,hy276⟩ : ∃ y_ : List Int,y_ = (x9_3.set (x67_3 : Int).toNat ((ji49) % 4294967296)) := ⟨_,rfl⟩
                      replace H : (nat_Shr.l0 k3 x8_34 y276 (ji47) (y272.length : Int) ji45) = some (r1,r2,r3) := by first | (rw [hy276];with_reducible exact H) | (have H2_ := (Option.bind_some _ _).symm.trans H;rw [hy276];with_reducible exact H2_) | (have H2_ := (Option.bind_some _ _).symm.trans H;with_reducible exact H2_) | with_reducible exact H | (rw [hy276];exact H) | exact H
                      have Ny276 := Aside0.mk hy276
                      clear hy276
                      have H' := Aside0.mk H
                      clear H
                      have p274 : 0 ≤ (x67_3 : Int) := od_
                      have q274 : x67_3 < (x9_3.length : Int) := od_
                      obtain ⟨ad274,e274,hx274_0⟩ := Kd.at_int (Kd.R_reads' HO_9.out).2.2 x67_3 p274 q274
                      cases e274
                      replace p274 := eq_true p274
                      replace q274 := eq_true q274
                      have p275 : 0 ≤ ((ji45) : Int) := od_
                      have q275 : (ji45) < (x9_3.length : Int) := od_
                      obtain ⟨ad275,e275,hx275_0⟩ := Kd.at_int (Kd.R_reads' HO_9.out).2.2 (ji45) p275 q275
                      obtain rfl : ad274 = ad275 := (by injection e275)
                      replace p275 := eq_true p275
                      replace q275 := eq_true q275
                      have p50 : 0 ≤ (x67_3 : Int) := od_
                      have q50 : (x67_3 : Int) < ((x9_3.length : Int) : Int) := od_
                      obtain ⟨go50,co50,eo50,gb50,gl50,cl50,HG50⟩ := Kd.R_form HO_9.out (by omega)
                      (first | cases eo50 | (injection eo50 with ea_ en_ ec_;(first | subst ea_ | (injection ea_ with ea_;subst ea_));subst ec_;clear en_))
                      have GB50 := Aside0.mk gb50
                      have GG50 := Aside0.mk HG50
                      clear gb50 gl50 HG50
                      (first | simp only [add_plain] at hx274_0 | skip)
                      (first | simp only [add_plain] at hx275_0 | skip)
                      obtain ⟨hx50_0,hf50_0⟩ := Kd.R_celln 0 HO_9.out (x67_3 : Int) p50 q50
                      replace p50 := eq_true p50
                      replace q50 := eq_true q50
                      have HP51 := Kd.R_putg HO_9.out (x67_3 : Int) ((ji49) % 4294967296)
                      go_wp2_with (first | ((with_reducible refine gate_store (t := 43) (p := 95) rfl ?_);(try (rw [drewN_self wr];generalize hq_ : World.drewN wr _ = wr;have n0_ := Aside0.mk (Kd.R_at hq_ HO_9.out);have n1_ := Aside0.mk (below_at hq_ HB.out);clear hq_ HO_9 HB;have HO_9 := n0_;have HB := n1_;clear n0_ n1_;(try (obtain ⟨hx50_0,hf50_0⟩ := Kd.R_celln 0 HO_9.out (x67_3 : Int) (of_eq_true p50) (of_eq_true q50)));(try (have HP51 := Kd.R_putg HO_9.out (x67_3 : Int) ((ji49) % 4294967296)))));refine store_event (t := 43) (p := 95) (v := ?vo_w52) (w1 := (wr.setCell ⟨go50,(x67_3 : Int).toNat,none⟩ (.int .u32 ((ji49) % 4294967296)))) ?hg ?ho ?hn ?hr ?_;(case ho => rfl);(case hg => rfl);(case hn => rfl);(case hr => first | (go_simp;done) | (go_simp;rfl));intro w52 hw;have hg : wr.grownBy w52 (some go50) := (by rw [hw];exact HP51.2);have hp_ : Kd.R (Kd.int .u32) 43 w52 w.heap.size (fun k_ => (w.heap.size ≤ k_)) (.slice (some ⟨go50,0,none⟩) x9_3.length co32) y276 := (by rw [hw,Ny276.out];exact HP51.1);clear HP51;replace HO_9 := Aside0.mk (hp_);replace HB := Aside0.mk ((by rw [hw];exact below_set (HB.out) GB50.out : Below w.heap.size w w52));clear hg hw hp_))
                      repeat (go_quiet (first | ((with_reducible refine gate_store (t := 43) (p := 95) rfl ?_);(try (rw [drewN_self wr];generalize hq_ : World.drewN wr _ = wr;have n0_ := Aside0.mk (Kd.R_at hq_ HO_9.out);have n1_ := Aside0.mk (below_at hq_ HB.out);clear hq_ HO_9 HB;have HO_9 := n0_;have HB := n1_;clear n0_ n1_;(try (obtain ⟨hx50_0,hf50_0⟩ := Kd.R_celln 0 HO_9.out (x67_3 : Int) (of_eq_true p50) (of_eq_true q50)));(try (have HP51 := Kd.R_putg HO_9.out (x67_3 : Int) ((ji49) % 4294967296)))));refine store_event (t := 43) (p := 95) (v := ?vo_w52) (w1 := (wr.setCell ⟨go50,(x67_3 : Int).toNat,none⟩ (.int .u32 ((ji49) % 4294967296)))) ?hg ?ho ?hn ?hr ?_;(case ho => rfl);(case hg => rfl);(case hn => rfl);(case hr => first | (go_simp;done) | (go_simp;rfl));intro w52 hw;have hg : wr.grownBy w52 (some go50) := (by rw [hw];exact HP51.2);have hp_ : Kd.R (Kd.int .u32) 43 w52 w.heap.size (fun k_ => (w.heap.size ≤ k_)) (.slice (some ⟨go50,0,none⟩) x9_3.length co32) y276 := (by rw [hw,Ny276.out];exact HP51.1);clear HP51;replace HO_9 := Aside0.mk (hp_);replace HB := Aside0.mk ((by rw [hw];exact below_set (HB.out) GB50.out : Below w.heap.size w w52));clear hg hw hp_));try go_wp2_with (first | ((with_reducible refine gate_store (t := 43) (p := 95) rfl ?_);(try (rw [drewN_self wr];generalize hq_ : World.drewN wr _ = wr;have n0_ := Aside0.mk (Kd.R_at hq_ HO_9.out);have n1_ := Aside0.mk (below_at hq_ HB.out);clear hq_ HO_9 HB;have HO_9 := n0_;have HB := n1_;clear n0_ n1_;(try (obtain ⟨hx50_0,hf50_0⟩ := Kd.R_celln 0 HO_9.out (x67_3 : Int) (of_eq_true p50) (of_eq_true q50)));(try (have HP51 := Kd.R_putg HO_9.out (x67_3 : Int) ((ji49) % 4294967296)))));refine store_event (t := 43) (p := 95) (v := ?vo_w52) (w1 := (wr.setCell ⟨go50,(x67_3 : Int).toNat,none⟩ (.int .u32 ((ji49) % 4294967296)))) ?hg ?ho ?hn ?hr ?_;(case ho => rfl);(case hg => rfl);(case hn => rfl);(case hr => first | (go_simp;done) | (go_simp;rfl));intro w52 hw;have hg : wr.grownBy w52 (some go50) := (by rw [hw];exact HP51.2);have hp_ : Kd.R (Kd.int .u32) 43 w52 w.heap.size (fun k_ => (w.heap.size ≤ k_)) (.slice (some ⟨go50,0,none⟩) x9_3.length co32) y276 := (by rw [hw,Ny276.out];exact HP51.1);clear HP51;replace HO_9 := Aside0.mk (hp_);replace HB := Aside0.mk ((by rw [hw];exact below_set (HB.out) GB50.out : Below w.heap.size w w52));clear hg hw hp_)))
                      (try simp only [← hl9_3])
                      (first | go_roundg k3 | (simp only [← hji45,← hji47,← hji49];go_roundg k3))
                      case measure => have := HJ20.out;have := HJ34.out;have := HK3.out;omega
                      case rel => exact ⟨(y276),(ji45),(by first | rfl | (simp;done) | (simp only [← hji45] <;> (first | rfl | simp)) | (simp [*];done)),(by first | exact H' | (rw [hji12];exact H') | (rw [hji16];exact H') | (rw [hji38];exact H') | (rw [hji40];exact H') | (rw [hji45];exact H') | (rw [hji47];exact H') | (rw [hji49];exact H') | (rw [hji53];exact H') | (rw [hji55];exact H')),⟨by have := HJ20.out;have := HJ34.out;have := HK3.out;omega⟩,⟨by (try simp only [hl9_20]);(try simp only [hl9_3]);(with_reducible repeat (first | apply Kd.R_alloc | apply Kd.R_drewN | apply Kd.R_drew));exact HO_9.out⟩,⟨by repeat (first | (with_reducible first | exact HB.out | apply below_alloc | apply pw_below_drewN | apply below_drew1) | exact HB.out)⟩⟩
                     ·rw [if_neg c48] at H
                      exact absurd H (by simp)
                    ·rw [if_neg c46] at H
                     exact absurd H (by simp)
                   ·rw [if_neg c44] at H
                    have c44b0 : decide ((wrap64 (x67_3 + 1)) < (x9_3.length : Int)) = false := decide_eq_false c44
                    have c44b0h := c44b0
                    (try simp only [hl9_20,hl9_3] at c44b0h)
                    clear c44
                    obtain ⟨ji53,hji53⟩ : ∃ j_ : Int,(Int.tmod a1 32) = j_ := ⟨_,rfl⟩
                    replace H : (if 0 ≤ (ji53) then (nat_Shr.l0 k3 x8_34 (x9_3.set (x67_3 : Int).toNat ((shr .u64 (IntKind.u64.wrap (rd x9_3 x67_3)) (ji53)) % 4294967296)) (ji53) (y272.length : Int) (wrap64 (x67_3 + 1))) else (none)) = some (r1,r2,r3) := by first | (rw [hji53] at H;exact H) | (simp only [hji53] at H ⊢;exact H)
                    by_cases c54 : 0 ≤ (ji53)
                    ·rw [if_pos c54] at H
                     have c54b0 := eq_true c54
                     have c54b1 : decide (0 ≤ (ji53)) = true := decide_eq_true c54
                     clear c54
                     obtain ⟨ji55,hji55⟩ : ∃ j_ : Int,(shr .u64 (IntKind.u64.wrap (rd x9_3 x67_3)) (ji53)) = j_ := ⟨_,rfl⟩
                     replace H : (nat_Shr.l0 k3 x8_34 (x9_3.set (x67_3 : Int).toNat ((ji55) % 4294967296)) (ji53) (y272.length : Int) (wrap64 (x67_3 + 1))) = some (r1,r2,r3) := by first | (rw [hji55] at H;exact H) | (simp only [hji55] at H ⊢;exact H)
                     have hji55_ : ((IntKind.u64.wrap (rd x9_3 x67_3)) / 2 ^ min (ji53).toNat 64) = ji55 := hji55
                     have hji55z : (ji53) ≤ 64 → ((IntKind.u64.wrap (rd x9_3 x67_3)) / 2 ^ (ji53).toNat) = ji55 := shr_small hji55
                     obtain ⟨y277,hy277⟩ : ∃ y_ : List Int,y_ = (x9_3.set (x67_3 : Int).toNat ((ji55) % 4294967296)) := ⟨_,rfl⟩
                     replace H : (nat_Shr.l0 k3 x8_34 y277 (ji53) (y272.length : Int) (wrap64 (x67_3 + 1))) = some (r1,r2,r3) := by first | (rw [hy277];with_reducible exact H) | (have H2_ := (Option.bind_some _ _).symm.trans H;rw [hy277];with_reducible exact H2_) | (have H2_ := (Option.bind_some _ _).symm.trans H;with_reducible exact H2_) | with_reducible exact H | (rw [hy277];exact H) | exact H
                     have Ny277 := Aside0.mk hy277
                     clear hy277
                     have H' := Aside0.mk H
                     clear H
                     have p274 : 0 ≤ (x67_3 : Int) := od_
                     have q274 : x67_3 < (x9_3.length : Int) := od_
                     obtain ⟨ad274,e274,hx274_0⟩ := Kd.at_int (Kd.R_reads' HO_9.out).2.2 x67_3 p274 q274
                     cases e274
                     replace p274 := eq_true p274
                     replace q274 := eq_true q274
                     have p56 : 0 ≤ (x67_3 : Int) := od_
                     have q56 : (x67_3 : Int) < ((x9_3.length : Int) : Int) := od_
                     obtain ⟨go56,co56,eo56,gb56,gl56,cl56,HG56⟩ := Kd.R_form HO_9.out (by omega)
                     (first | cases eo56 | (injection eo56 with ea_ en_ ec_;(first | subst ea_ | (injection ea_ with ea_;subst ea_));subst ec_;clear en_))
                     have GB56 := Aside0.mk gb56
                     have GG56 := Aside0.mk HG56
                     clear gb56 gl56 HG56
                     (first | simp only [add_plain] at hx274_0 | skip)
                     obtain ⟨hx56_0,hf56_0⟩ := Kd.R_celln 0 HO_9.out (x67_3 : Int) p56 q56
                     replace p56 := eq_true p56
                     replace q56 := eq_true q56
                     have HP57 := Kd.R_putg HO_9.out (x67_3 : Int) ((ji55) % 4294967296)
                     go_wp2_with (first | ((with_reducible refine gate_store (t := 43) (p := 95) rfl ?_);(try (rw [drewN_self wr];generalize hq_ : World.drewN wr _ = wr;have n0_ := Aside0.mk (Kd.R_at hq_ HO_9.out);have n1_ := Aside0.mk (below_at hq_ HB.out);clear hq_ HO_9 HB;have HO_9 := n0_;have HB := n1_;clear n0_ n1_;(try (obtain ⟨hx56_0,hf56_0⟩ := Kd.R_celln 0 HO_9.out (x67_3 : Int) (of_eq_true p56) (of_eq_true q56)));(try (have HP57 := Kd.R_putg HO_9.out (x67_3 : Int) ((ji55) % 4294967296)))));refine store_event (t := 43) (p := 95) (v := ?vo_w58) (w1 := (wr.setCell ⟨go56,(x67_3 : Int).toNat,none⟩ (.int .u32 ((ji55) % 4294967296)))) ?hg ?ho ?hn ?hr ?_;(case ho => rfl);(case hg => rfl);(case hn => rfl);(case hr => first | (go_simp;done) | (go_simp;rfl));intro w58 hw;have hg : wr.grownBy w58 (some go56) := (by rw [hw];exact HP57.2);have hp_ : Kd.R (Kd.int .u32) 43 w58 w.heap.size (fun k_ => (w.heap.size ≤ k_)) (.slice (some ⟨go56,0,none⟩) x9_3.length co32) y277 := (by rw [hw,Ny277.out];exact HP57.1);clear HP57;replace HO_9 := Aside0.mk (hp_);replace HB := Aside0.mk ((by rw [hw];exact below_set (HB.out) GB56.out : Below w.heap.size w w58));clear hg hw hp_))
                     repeat (go_quiet (first | ((with_reducible refine gate_store (t := 43) (p := 95) rfl ?_);(try (rw [drewN_self wr];generalize hq_ : World.drewN wr _ = wr;have n0_ := Aside0.mk (Kd.R_at hq_ HO_9.out);have n1_ := Aside0.mk (below_at hq_ HB.out);clear hq_ HO_9 HB;have HO_9 := n0_;have HB := n1_;clear n0_ n1_;(try (obtain ⟨hx56_0,hf56_0⟩ := Kd.R_celln 0 HO_9.out (x67_3 : Int) (of_eq_true p56) (of_eq_true q56)));(try (have HP57 := Kd.R_putg HO_9.out (x67_3 : Int) ((ji55) % 4294967296)))));refine store_event (t := 43) (p := 95) (v := ?vo_w58) (w1 := (wr.setCell ⟨go56,(x67_3 : Int).toNat,none⟩ (.int .u32 ((ji55) % 4294967296)))) ?hg ?ho ?hn ?hr ?_;(case ho => rfl);(case hg => rfl);(case hn => rfl);(case hr => first | (go_simp;done) | (go_simp;rfl));intro w58 hw;have hg : wr.grownBy w58 (some go56) := (by rw [hw];exact HP57.2);have hp_ : Kd.R (Kd.int .u32) 43 w58 w.heap.size (fun k_ => (w.heap.size ≤ k_)) (.slice (some ⟨go56,0,none⟩) x9_3.length co32) y277 := (by rw [hw,Ny277.out];exact HP57.1);clear HP57;replace HO_9 := Aside0.mk (hp_);replace HB := Aside0.mk ((by rw [hw];exact below_set (HB.out) GB56.out : Below w.heap.size w w58));clear hg hw hp_));try go_wp2_with (first | ((with_reducible refine gate_store (t := 43) (p := 95) rfl ?_);(try (rw [drewN_self wr];generalize hq_ : World.drewN wr _ = wr;have n0_ := Aside0.mk (Kd.R_at hq_ HO_9.out);have n1_ := Aside0.mk (below_at hq_ HB.out);clear hq_ HO_9 HB;have HO_9 := n0_;have HB := n1_;clear n0_ n1_;(try (obtain ⟨hx56_0,hf56_0⟩ := Kd.R_celln 0 HO_9.out (x67_3 : Int) (of_eq_true p56) (of_eq_true q56)));(try (have HP57 := Kd.R_putg HO_9.out (x67_3 : Int) ((ji55) % 4294967296)))));refine store_event (t := 43) (p := 95) (v := ?vo_w58) (w1 := (wr.setCell ⟨go56,(x67_3 : Int).toNat,none⟩ (.int .u32 ((ji55) % 4294967296)))) ?hg ?ho ?hn ?hr ?_;(case ho => rfl);(case hg => rfl);(case hn => rfl);(case hr => first | (go_simp;done) | (go_simp;rfl));intro w58 hw;have hg : wr.grownBy w58 (some go56) := (by rw [hw];exact HP57.2);have hp_ : Kd.R (Kd.int .u32) 43 w58 w.heap.size (fun k_ => (w.heap.size ≤ k_)) (.slice (some ⟨go56,0,none⟩) x9_3.length co32) y277 := (by rw [hw,Ny277.out];exact HP57.1);clear HP57;replace HO_9 := Aside0.mk (hp_);replace HB := Aside0.mk ((by rw [hw];exact below_set (HB.out) GB56.out : Below w.heap.size w w58));clear hg hw hp_)))
                     (try simp only [← hl9_3])
                     (first | go_roundg k3 | (simp only [← hji53,← hji55];go_roundg k3))
                     case measure => have := HJ20.out;have := HJ34.out;have := HK3.out;omega
                     case rel => exact ⟨(y277),(wrap64 (x67_3 + 1)),(by first | rfl | (simp;done) | (simp [*];done)),(by first | exact H' | (rw [hji12];exact H') | (rw [hji16];exact H') | (rw [hji38];exact H') | (rw [hji40];exact H') | (rw [hji45];exact H') | (rw [hji47];exact H') | (rw [hji49];exact H') | (rw [hji53];exact H') | (rw [hji55];exact H')),⟨by have := HJ20.out;have := HJ34.out;have := HK3.out;omega⟩,⟨by (try simp only [hl9_20]);(try simp only [hl9_3]);(with_reducible repeat (first | apply Kd.R_alloc | apply Kd.R_drewN | apply Kd.R_drew));exact HO_9.out⟩,⟨by repeat (first | (with_reducible first | exact HB.out | apply below_alloc | apply pw_below_drewN | apply below_drew1) | exact HB.out)⟩⟩
                    ·rw [if_neg c54] at H
                     exact absurd H (by simp)
                  ·rw [if_neg c43] at H
                   exact absurd H (by simp)
                 ·rw [if_neg c42] at H
                  exact absurd H (by simp)
                ·rw [if_neg c41] at H
                 have c41b0 : decide (x67_3 < (y272.length : Int)) = false := decide_eq_false c41
                 have c41b0h := c41b0
                 (try simp only [hl9_20,hl9_3] at c41b0h)
                 clear c41
                 replace H := Option.bind_eq_some_iff.mp H
                 obtain ⟨t278,A590,H⟩ := H
                 replace H : (if 0 ≤ t278 then (if t278 ≤ (x9_3.length : Int) then (some ((x9_3.take (t278 : Int).toNat),x8_34,0)) else (none)) else (none)) = some (r1,r2,r3) := H
                 have A59 := Aside0.mk A590
                 clear A590
                 by_cases c60 : 0 ≤ t278
                 ·rw [if_pos c60] at H
                  have c60b0 := eq_true c60
                  have c60b1 : decide (0 ≤ t278) = true := decide_eq_true c60
                  clear c60
                  by_cases c61 : t278 ≤ (x9_3.length : Int)
                  ·rw [if_pos c61] at H
                   have c61b0 := eq_true c61
                   have c61b1 : decide (t278 ≤ (x9_3.length : Int)) = true := decide_eq_true c61
                   have c61b1h := c61b1
                   (try simp only [hl9_20,hl9_3] at c61b1h)
                   clear c61
                   obtain ⟨y279,hy279⟩ : ∃ y_ : List Int,y_ = (x9_3.take (t278 : Int).toNat) := ⟨_,rfl⟩
                   replace H : (some (y279,x8_34,0)) = some (r1,r2,r3) := by first | (rw [hy279];with_reducible exact H) | (have H2_ := (Option.bind_some _ _).symm.trans H;rw [hy279];with_reducible exact H2_) | (have H2_ := (Option.bind_some _ _).symm.trans H;with_reducible exact H2_) | with_reducible exact H | (rw [hy279];exact H) | exact H
                   have Ny279 := Aside0.mk hy279
                   clear hy279
                   simp only [Option.some.injEq,Prod.mk.injEq] at H
                   obtain ⟨rfl,rfl,rfl⟩ := H
                   go_wp2_with (first | (go_at_call 25;(with_reducible refine (nat_cut_read.calls (l' := y279) (hl' := Ny279.out) k3 _ _ x9_3 t278 _ ?side1 ?side2 A59.out).mono ?_);(case side1 => exact ca_ (Kd.R_reads' HO_9.out).2.2);(case side2 => exact (Kd.R_reads' HO_9.out).2.1);rintro e w' ⟨rfl,⟨nd,rfl⟩⟩;(try first | exact ⟨rfl,_,World.drewN_drewN _ _ _⟩ | exact ⟨rfl,_,Eq.trans (World.drewN_drewN _ _ _) (congrArg (World.drewN _) (Nat.add_assoc _ _ _))⟩);have q62 : (t278 : Int) ≤ ((x9_3.length : Int) : Int) := od_;obtain ⟨i062,hi062,_,hsz62,_⟩ := info_parts info43;have hcut62 := cut_to (P := Tryd.prog) 24 43 .i64 Tryd.underlying24 hi062 Ao32 x9_3.length co32 t278 od_ q62 (Kd.R_reads' HO_9.out).2.1;have hr62 := Kd.R_take (m := (t278 : Int).toNat) HO_9.out (by have e_ := (Kd.R_reads' HO_9.out).1;omega);have hy62 : y279.length = (t278 : Int).toNat := (by have e_ := (Kd.R_reads' HO_9.out).1;rw [Ny279.out,List.length_take];omega);rw [← Ny279.out] at hr62;rw [← hy62] at hr62 hcut62;clear hy62 hi062 hsz62 HO_9;have HO281 := Aside0.mk hr62;clear hr62;replace q62 := eq_true q62))
                   repeat (go_quiet (first | (go_at_call 25;(with_reducible refine (nat_cut_read.calls (l' := y279) (hl' := Ny279.out) k3 _ _ x9_3 t278 _ ?side1 ?side2 A59.out).mono ?_);(case side1 => exact ca_ (Kd.R_reads' HO_9.out).2.2);(case side2 => exact (Kd.R_reads' HO_9.out).2.1);rintro e w' ⟨rfl,⟨nd,rfl⟩⟩;(try first | exact ⟨rfl,_,World.drewN_drewN _ _ _⟩ | exact ⟨rfl,_,Eq.trans (World.drewN_drewN _ _ _) (congrArg (World.drewN _) (Nat.add_assoc _ _ _))⟩);have q62 : (t278 : Int) ≤ ((x9_3.length : Int) : Int) := od_;obtain ⟨i062,hi062,_,hsz62,_⟩ := info_parts info43;have hcut62 := cut_to (P := Tryd.prog) 24 43 .i64 Tryd.underlying24 hi062 Ao32 x9_3.length co32 t278 od_ q62 (Kd.R_reads' HO_9.out).2.1;have hr62 := Kd.R_take (m := (t278 : Int).toNat) HO_9.out (by have e_ := (Kd.R_reads' HO_9.out).1;omega);have hy62 : y279.length = (t278 : Int).toNat := (by have e_ := (Kd.R_reads' HO_9.out).1;rw [Ny279.out,List.length_take];omega);rw [← Ny279.out] at hr62;rw [← hy62] at hr62 hcut62;clear hy62 hi062 hsz62 HO_9;have HO281 := Aside0.mk hr62;clear hr62;replace q62 := eq_true q62));try go_wp2_with (first | (go_at_call 25;(with_reducible refine (nat_cut_read.calls (l' := y279) (hl' := Ny279.out) k3 _ _ x9_3 t278 _ ?side1 ?side2 A59.out).mono ?_);(case side1 => exact ca_ (Kd.R_reads' HO_9.out).2.2);(case side2 => exact (Kd.R_reads' HO_9.out).2.1);rintro e w' ⟨rfl,⟨nd,rfl⟩⟩;(try first | exact ⟨rfl,_,World.drewN_drewN _ _ _⟩ | exact ⟨rfl,_,Eq.trans (World.drewN_drewN _ _ _) (congrArg (World.drewN _) (Nat.add_assoc _ _ _))⟩);have q62 : (t278 : Int) ≤ ((x9_3.length : Int) : Int) := od_;obtain ⟨i062,hi062,_,hsz62,_⟩ := info_parts info43;have hcut62 := cut_to (P := Tryd.prog) 24 43 .i64 Tryd.underlying24 hi062 Ao32 x9_3.length co32 t278 od_ q62 (Kd.R_reads' HO_9.out).2.1;have hr62 := Kd.R_take (m := (t278 : Int).toNat) HO_9.out (by have e_ := (Kd.R_reads' HO_9.out).1;omega);have hy62 : y279.length = (t278 : Int).toNat := (by have e_ := (Kd.R_reads' HO_9.out).1;rw [Ny279.out,List.length_take];omega);rw [← Ny279.out] at hr62;rw [← hy62] at hr62 hcut62;clear hy62 hi062 hsz62 HO_9;have HO281 := Aside0.mk hr62;clear hr62;replace q62 := eq_true q62)))
                   go_ret3
                   exact ⟨_,by first | rfl | (simp [errW_none,errW_some] <;> rfl) | (simp only [← hji12,← hji16];first | rfl | (simp [errW_none,errW_some] <;> rfl)) | (simp [*,errW_none,errW_some] <;> rfl),by (with_reducible repeat (first | apply Kd.R_alloc | apply Kd.R_drewN | apply Kd.R_drew));exact HO281.out,by repeat (first | (with_reducible first | exact HB.out | apply below_alloc | apply pw_below_drewN | apply below_drew1) | exact HB.out)⟩
                  ·rw [if_neg c61] at H
                   exact absurd H (by simp)
                 ·rw [if_neg c60] at H
                  exact absurd H (by simp)
        ·rw [if_neg c18] at H
         exact absurd H (by simp)
       ·rw [if_neg c17] at H
        exact absurd H (by simp)
      ·rw [if_neg c14] at H
       exact absurd H (by simp)
     ·rw [if_neg c13] at H
      exact absurd H (by simp)
    ·rw [if_neg c11] at H
     exact absurd H (by simp)
   ·rw [if_neg c10] at H
    exact absurd H (by simp)

/-! ### nat_Trim: function 11 -/
def nat_Trim.f (k : Nat) (l0 : List Int) : Option (List Int) := (nat_right.f k l0).bind fun t282 => (if 0 ≤ t282 then (if (t282 : Int).toNat ≤ 70368744177664 then (some (overlay_ (List.replicate (t282 : Int).toNat 0) l0)) else (none)) else (none))
set_option maxHeartbeats 8000000 in
set_option maxRecDepth 100000 in
theorem nat_Trim.calls (k : Nat) (A0 : Option Addr) (c0 : Nat) (l0 : List Int) (r : List Int) (w : World) (hr0 : Kd.C (Kd.int .u32) w A0 l0.length l0) (hc0 : l0.length ≤ c0) (h : nat_Trim.f k l0 = some r) :
  Calls Tryd.prog 11 #[.slice A0 l0.length c0] w fun e w' => ∃ v0_ : Value,e = .returned (v0_) ∧ Kd.R (Kd.int .u32) 43 w' w.heap.size (fun _ => True) v0_ r ∧ Below w.heap.size w w' := by
 have HR0 := Aside0.mk hr0
 have HC0 := Aside0.mk hc0
 clear hr0 hc0
 have HB := Aside0.mk (Below.refl w.heap.size w)
 have H : ((nat_right.f k l0).bind fun t282 => (if 0 ≤ t282 then (if (t282 : Int).toNat ≤ 70368744177664 then (some (overlay_ (List.replicate (t282 : Int).toNat 0) l0)) else (none)) else (none))) = some r := h
 clear h
 replace H := Option.bind_eq_some_iff.mp H
 obtain ⟨t282,A20,H⟩ := H
 replace H : (if 0 ≤ t282 then (if (t282 : Int).toNat ≤ 70368744177664 then (some (overlay_ (List.replicate (t282 : Int).toNat 0) l0)) else (none)) else (none)) = some r := H
 have A2 := Aside0.mk A20
 clear A20
 by_cases c3 : 0 ≤ t282
 ·rw [if_pos c3] at H
  have c3b0 := eq_true c3
  have c3b1 : decide (0 ≤ t282) = true := decide_eq_true c3
  clear c3
  by_cases c4 : (t282 : Int).toNat ≤ 70368744177664
  ·rw [if_pos c4] at H
   have c4b0 := eq_true c4
   have c4b1 : decide ((t282 : Int).toNat ≤ 70368744177664) = true := decide_eq_true c4
   clear c4
   obtain ⟨y283,hy283⟩ : ∃ y_ : List Int,y_ = (List.replicate (t282 : Int).toNat 0) := ⟨_,rfl⟩
   replace H : (some (overlay_ y283 l0)) = some r := by first | (rw [hy283];with_reducible exact H) | (have H2_ := (Option.bind_some _ _).symm.trans H;rw [hy283];with_reducible exact H2_) | (have H2_ := (Option.bind_some _ _).symm.trans H;with_reducible exact H2_) | with_reducible exact H | (rw [hy283];exact H) | exact H
   have Ny283 := Aside0.mk hy283
   clear hy283
   obtain ⟨y286,hy286⟩ : ∃ y_ : List Int,y_ = (overlay_ y283 l0) := ⟨_,rfl⟩
   replace H : (some y286) = some r := by first | (rw [hy286];with_reducible exact H) | (have H2_ := (Option.bind_some _ _).symm.trans H;rw [hy286];with_reducible exact H2_) | (have H2_ := (Option.bind_some _ _).symm.trans H;with_reducible exact H2_) | with_reducible exact H | (rw [hy286];exact H) | exact H
   have Ny286 := Aside0.mk hy286
   clear hy286
   obtain rfl := Option.some.inj H
   go_enter Tryd.func11,Tryd.ntmps11
   go_wp2_with (first | ((with_reducible refine gate_callee (f := 29) rfl ?_);refine goesL_ (some 5) rfl rfl Tryd.func29 (by kernel_rfl) rfl #[.slice A0 l0.length c0] rfl am_ ?_;(with_reducible refine (nat_right.calls k _ _ l0 t282 _ ?side1 ?side2 A2.out).mono ?_);(case side1 => exact ca_ HR0.out);(case side2 => exact HC0.out);rintro e w' ⟨rfl,⟨nd,rfl⟩⟩;refine ⟨_,rfl,?_⟩) | ((with_reducible refine gate_dst (N := 6) rfl ?_);refine Kd.R_make (Kd.int .u32) _ 43 rfl (N := 6) rfl 24 _ _ rfl t282 rfl rfl Tryd.underlying24 (.int .u32 0) 4 info43 rfl (by decide) (by omega) 0 (ok := fun _ => True) (okp := fun _ => True) rfl (fun _ hk => hk) trivial od_ (Nat.le_trans (Nat.mul_le_mul_right _ (od_ : t282.toNat ≤ 70368744177664)) (by omega)) (Below.refl _ _) (Nat.le_refl _) ?_;intro v284 w5 ho6 hb hg_ hnew_;clear hg_ hnew_;(first | rw [← Ny283.out] at ho6 | (simp only [Int.reduceToNat] at ho6;rw [← Ny283.out] at ho6));have HO285 := Aside0.mk (Kd.R_lower ho6 (below_size bl_));replace HB := Aside0.mk (below_step bl_ hb);clear hb ho6;obtain ⟨Ao9,co9,eo9⟩ := Kd.R_slice HO285.out;subst eo9) | ((with_reducible refine gate_builtin (b := .copy) (xs := #[.tmp 7,.tmp 8]) rfl ?_);refine Kd.R_copy (enc := (Value.int .u32)) (h1 := fun _ => rfl) 0 (w0 := w) w.heap.size rfl (.tmp 7) (.tmp 8) 24 24 43 rfl Tryd.underlying24 (by kernel_rfl) (.slice Ao9 y283.length co9) y283 l0 _ _ _ (fun _ => True) rfl rfl ?aO ?aR ?aB ?aS ?_;(case aO => exact (ra_ HO285.out));(case aR => exact ca_ (Kd.C_below HR0.out HB.out));(case aB => exact bl_);(case aS => exact (below_size bl_));intro w8 ho hb hg;have hp_ : Kd.R (Kd.int .u32) 43 w8 w.heap.size (fun _ => True) (.slice Ao9 y283.length co9) y286 := (by rw [Ny286.out];exact ho);clear ho;replace HO285 := Aside0.mk (hp_);replace HB := Aside0.mk (hb);clear hb hg hp_))
   go_ret
   exact ⟨_,by first | rfl | (simp [errW_none,errW_some] <;> rfl) | (simp [*,errW_none,errW_some] <;> rfl),by (with_reducible repeat (first | apply Kd.R_alloc | apply Kd.R_drewN | apply Kd.R_drew));exact HO285.out,by repeat (first | (with_reducible first | exact HB.out | apply below_alloc | apply pw_below_drewN | apply below_drew1) | exact HB.out)⟩
  ·rw [if_neg c4] at H
   exact absurd H (by simp)
 ·rw [if_neg c3] at H
  exact absurd H (by simp)

/-! ### nat_Of: function 22 -/
def nat_Of.f (k : Nat) (a0 : Int) : Option (List Int) := (nat_Trim.f k (([(a0) % 4294967296,(a0 / 4294967296) % 4294967296] : List Int))).bind fun t290 => (some t290)
set_option maxHeartbeats 8000000 in
set_option maxRecDepth 100000 in
theorem nat_Of.calls (k : Nat) (a0 : Int) (r : List Int) (w : World) (h : nat_Of.f k a0 = some r) :
  Calls Tryd.prog 22 #[.int .u64 a0] w fun e w' => ∃ v0_ : Value,e = .returned (v0_) ∧ Kd.R (Kd.int .u32) 43 w' w.heap.size (fun _ => True) v0_ r ∧ Below w.heap.size w w' := by
 have HB := Aside0.mk (Below.refl w.heap.size w)
 have H : ((nat_Trim.f k (([(a0) % 4294967296,(a0 / 4294967296) % 4294967296] : List Int))).bind fun t290 => (some t290)) = some r := h
 clear h
 obtain ⟨y287,hy287⟩ : ∃ y_ : List Int,y_ = (([(a0) % 4294967296,(a0 / 4294967296) % 4294967296] : List Int)) := ⟨_,rfl⟩
 replace H : ((nat_Trim.f k y287).bind fun t290 => (some t290)) = some r := by first | (rw [hy287];with_reducible exact H) | (have H2_ := (Option.bind_some _ _).symm.trans H;rw [hy287];with_reducible exact H2_) | (have H2_ := (Option.bind_some _ _).symm.trans H;with_reducible exact H2_) | with_reducible exact H | (rw [hy287];exact H) | exact H
 have Ny287 := Aside0.mk hy287
 clear hy287
 replace H := Option.bind_eq_some_iff.mp H
 obtain ⟨t290,A20,H⟩ := H
 replace H : (some t290) = some r := H
 have A2 := Aside0.mk A20
 clear A20
 obtain rfl := Option.some.inj H
 go_enter Tryd.func22,Tryd.ntmps22
 go_wp2_with (first | ((with_reducible refine gate_dst (N := 8) rfl ?_);refine Kd.R_lit (Kd.int .u32) _ 43 ?hg (N := 8) ?hd (xs := ([(a0) % 4294967296,(a0 / 4294967296) % 4294967296] : List Int)) (inner := [.int .u32 ((a0) % 4294967296),.int .u32 ((a0 / 4294967296) % 4294967296)]) (ok := fun _ => True) (okp := fun _ => True) ?hr ?hp (fun _ hk => hk) trivial (Below.refl _ _) (Nat.le_refl _) (by simp) ?_;(case hd => rfl);(case hg => rfl);(case hr => first | (go_simp;done) | (go_simp;rfl));(case hp => exact (Reps.one (show Kd.M (Kd.int .u32) _ _ _ ((a0) % 4294967296) [.int .u32 ((a0) % 4294967296)] from rfl) (Reps.one (show Kd.M (Kd.int .u32) _ _ _ ((a0 / 4294967296) % 4294967296) [.int .u32 ((a0 / 4294967296) % 4294967296)] from rfl) (Reps.none _ _))));intro v288 w3 ho4 hb hg_ hnew_;clear hg_ hnew_;(first | rw [← Ny287.out] at ho4 | (simp only [Int.reduceToNat] at ho4;rw [← Ny287.out] at ho4));have HO289 := Aside0.mk (Kd.R_lower ho4 (below_size bl_));replace HB := Aside0.mk (below_step bl_ hb);clear hb ho4;obtain ⟨Ao5,co5,eo5⟩ := Kd.R_slice HO289.out;subst eo5) | ((with_reducible refine gate_callee (f := 11) rfl ?_);refine goesL_ (some 9) rfl rfl Tryd.func11 (by kernel_rfl) rfl #[.slice Ao5 y287.length co5] rfl am_ ?_;(with_reducible refine (nat_Trim.calls k _ _ y287 t290 _ ?side1 ?side2 A2.out).mono ?_);(case side1 => exact ca_ (Kd.R_reads' HO289.out).2.2);(case side2 => exact (Kd.R_reads' HO289.out).2.1);rintro e w6 ⟨v291,rfl,ho0,hb⟩;refine ⟨_,rfl,?_⟩;have HO292 := Aside0.mk (Kd.R_lower (Kd.R_new' ho0 (Kd.R_lt (ra_ HO289.out))) (below_size bl_));replace HO289 := Aside0.mk (Kd.R_elder' (ra_ HO289.out) (Kd.R_base ho0) hb);replace HB := Aside0.mk (below_step bl_ hb);(try clear hb);(try clear hb2);(try clear hk);(try clear hi);(try clear ho0)))
 go_ret
 exact ⟨_,by first | rfl | (simp [errW_none,errW_some] <;> rfl) | (simp [*,errW_none,errW_some] <;> rfl),by (with_reducible repeat (first | apply Kd.R_alloc | apply Kd.R_drewN | apply Kd.R_drew));exact Kd.R_mono HO292.out (fun _ hk => trivial),by repeat (first | (with_reducible first | exact HB.out | apply below_alloc | apply pw_below_drewN | apply below_drew1) | exact HB.out)⟩

end Go.Proofs.YtfcenlhaepckoaaDoor.P
