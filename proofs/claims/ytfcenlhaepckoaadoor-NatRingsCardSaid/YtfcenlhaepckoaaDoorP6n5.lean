-- Printed by a program of this session (wip/tools) over the kit's print: not trusted, Lean checks it.
import Derived.Test.YtfcenlhaepckoaaDoorP0n5
import Derived.Test.YtfcenlhaepckoaaDoorProg
import Derived.Test.YtfcenlhaepckoaaDoorElibn5
import Derived.Test.YtfcenlhaepckoaaDoorShelfn5
import Derived.Test.YtfcenlhaepckoaaDoorSqn5
import Derived.Test.YtfcenlhaepckoaaDoorP1n5
import Derived.Test.YtfcenlhaepckoaaDoorP2n5
import Derived.Test.YtfcenlhaepckoaaDoorP3n5
import Derived.Test.YtfcenlhaepckoaaDoorP4n5
import Derived.Test.YtfcenlhaepckoaaDoorP5n5
import Derived.Test.YtfcenlhaepckoaaDoorLibsn5
namespace Go.Proofs.YtfcenlhaepckoaaDoor.P
set_option linter.all false
open Go.RowKit Go.Proofs.YtfcenlhaepckoaaDoorW.PrintWords Go.Proofs.YtfcenlhaepckoaaDoorW.PrintLast Go.Proofs.YtfcenlhaepckoaaDoorW.PrintMore
attribute [local go_sem] max2_int min2_int max_two min_two max_three min_three max_four min_four   -- for this text's walks alone
attribute [local go_sem] cell_after
set_option linter.unusedVariables false
set_option linter.unusedSimpArgs false

/-! ### nat_Pow: function 16 -/
mutual
def nat_Pow.j0 : Nat → Int → Int → Bool → Option (List Int × Int)
 | 0,_,_,_ => none
 | k + 1,x0,x1,x17 => if x17 = true then (some (([] : List Int),1)) else ((some (([1] : List Int) : List Int)).bind fun y293 => (if x0 = 0 then (nat_Pow.j1 k x0 x1 y293 (decide (x1 > 0))) else (nat_Pow.j1 k x0 x1 y293 false)))
def nat_Pow.j1 : Nat → Int → Int → List Int → Bool → Option (List Int × Int)
 | 0,_,_,_,_ => none
 | k + 1,x0,x1,x6,x19 => if x19 = true then (some (([] : List Int),0)) else (if x0 ≤ 1 then (some (x6,0)) else (nat_Pow.l0 k x0 x6 x1 0))
def nat_Pow.l0 : Nat → Int → List Int → Int → Int → Option (List Int × Int)
 | 0,_,_,_,_ => none
 | k + 1,x0,x6,x30,x31 => if x31 < x30 then ((nat_Of.f k (IntKind.u64.wrap (x0))).bind fun t296 => ((nat_Mul.f k x6 t296).bind fun bt299 => (if bt299.2 = 0 then (nat_Pow.l0 k x0 bt299.1 x30 (wrap64 (x31 + 1))) else (some (([] : List Int),bt299.2))))) else (some (x6,0))
end
def nat_Pow.f (k : Nat) (a0 : Int) (a1 : Int) : Option (List Int × Int) := if a0 < 0 then (nat_Pow.j0 k a0 a1 true) else (if a0 > 1000000 then (nat_Pow.j0 k a0 a1 true) else (nat_Pow.j0 k a0 a1 (decide (a1 < 0))))
set_option maxHeartbeats 8000000 in
set_option maxRecDepth 100000 in
theorem nat_Pow.calls (k : Nat) (a0 : Int) (a1 : Int) (r1 : List Int) (r2 : Int) (w : World) (h : nat_Pow.f k a0 a1 = some (r1,r2)) :
  Calls Tryd.prog 16 #[.int .i64 a0,.int .i64 a1] w fun e w' => ∃ v0_ : Value,e = .returned (.tuple #[v0_,.int .i64 r2]) ∧ Kd.R (Kd.int .u32) 43 w' w.heap.size (fun _ => True) v0_ r1 ∧ Below w.heap.size w w' := by
 have HB := Aside0.mk (Below.refl w.heap.size w)
 have H : (if a0 < 0 then (nat_Pow.j0 k a0 a1 true) else (if a0 > 1000000 then (nat_Pow.j0 k a0 a1 true) else (nat_Pow.j0 k a0 a1 (decide (a1 < 0))))) = some (r1,r2) := h
 clear h
 have HC3 := Aside0.mk H
 clear H
 go_enter Tryd.func16,Tryd.ntmps16
 go_upto_region 1 with (fail)
 go_cut [17] (fun v17 wc => ∃ (kq : Nat) (x17_2 : Bool),v17 = .bool x17_2 ∧ Aside0 (nat_Pow.j0 kq a0 a1 x17_2 = some (r1,r2)) ∧ Aside0 (kq ≤ k) ∧ Aside0 (Below w.heap.size w wc))
 case first =>
  have H := HC3.out
  clear HC3
  by_cases c4 : a0 < 0
  ·rw [if_pos c4] at H
   have c4b0 : decide (a0 < 0) = true := decide_eq_true c4
   clear c4
   (first | rw [c4b0] | (simp only [i64_w,i32_w];rw [c4b0]) | rw [c4b1] | (simp only [i64_w,i32_w];rw [c4b1]) | skip)
   have H' := Aside0.mk H
   clear H
   go_wp2
   go_meet
   case rel => exact ⟨_,(true),(by first | rfl | (simp;done) | (simp [*];done)),H',⟨by first | omega | exact Nat.le_refl _⟩,⟨by repeat (first | (with_reducible first | exact HB.out | apply below_alloc | apply pw_below_drewN | apply below_drew1) | exact HB.out)⟩⟩
  ·rw [if_neg c4] at H
   have c4b0 : decide (a0 < 0) = false := decide_eq_false c4
   clear c4
   (first | rw [c4b0] | (simp only [i64_w,i32_w];rw [c4b0]) | rw [c4b1] | (simp only [i64_w,i32_w];rw [c4b1]) | skip)
   by_cases c5 : a0 > 1000000
   ·rw [if_pos c5] at H
    have c5b0 : decide (1000000 < a0) = true := decide_eq_true c5
    clear c5
    have H' := Aside0.mk H
    clear H
    go_wp2
    go_meet
    case rel => exact ⟨_,(true),(by first | rfl | (simp;done) | (simp [*];done)),H',⟨by first | omega | exact Nat.le_refl _⟩,⟨by repeat (first | (with_reducible first | exact HB.out | apply below_alloc | apply pw_below_drewN | apply below_drew1) | exact HB.out)⟩⟩
   ·rw [if_neg c5] at H
    have c5b0 : decide (1000000 < a0) = false := decide_eq_false c5
    clear c5
    have H' := Aside0.mk H
    clear H
    go_wp2
    go_meet
    case rel => exact ⟨_,(decide (a1 < 0)),(by first | rfl | (simp;done) | (simp [*];done)),H',⟨by first | omega | exact Nat.le_refl _⟩,⟨by repeat (first | (with_reducible first | exact HB.out | apply below_alloc | apply pw_below_drewN | apply below_drew1) | exact HB.out)⟩⟩
 case rest =>
  clear HC3
  try clear c1
  try clear p2
  try clear c4
  try clear c4b0
  try clear c4b1
  try clear c5
  try clear c5b0
  obtain ⟨kq,x17_2,rfl,HA,HJ2,HB⟩ := hcut
  cases kq with
  | zero => exact absurd HA.out (by simp [nat_Pow.j0])
  | succ kj2 =>
   have H := HA.out
   clear HA
   simp only [nat_Pow.j0] at H
   by_cases c6 : x17_2 = true
   ·subst c6
    have H1 : (some (([] : List Int),1)) = some (r1,r2) := by rw [if_pos rfl] at H;exact H
    clear H
    have H := H1
    clear H1
    simp only [Option.some.injEq,Prod.mk.injEq] at H
    obtain ⟨rfl,rfl⟩ := H
    go_wp2
    go_ret2
    exact ⟨_,by first | rfl | (simp [errW_none,errW_some] <;> rfl) | (simp [*,errW_none,errW_some] <;> rfl),by first | exact Kd.R_nil _ _ _ _ _ | exact Kd.N_nil _ _ _ _ _ | exact Kd.V_nil _ _ _ _ _ | exact Kd.Q_nil _ _ _ _ _ | exact Kd.S_nil _ _ _ _ _,by repeat (first | (with_reducible first | exact HB.out | apply below_alloc | apply pw_below_drewN | apply below_drew1) | exact HB.out)⟩
   ·replace c6 := Bool.eq_false_iff.mpr c6
    subst c6
    have H1 : ((some (([1] : List Int) : List Int)).bind fun y293 => (if a0 = 0 then (nat_Pow.j1 kj2 a0 a1 y293 (decide (a1 > 0))) else (nat_Pow.j1 kj2 a0 a1 y293 false))) = some (r1,r2) := by rw [if_neg (show ¬ (false = true) by decide)] at H;exact H
    clear H
    have H := H1
    clear H1
    obtain ⟨y293,hy293⟩ : ∃ y_ : List Int,y_ = (([1] : List Int)) := ⟨_,rfl⟩
    replace H : (if a0 = 0 then (nat_Pow.j1 kj2 a0 a1 y293 (decide (a1 > 0))) else (nat_Pow.j1 kj2 a0 a1 y293 false)) = some (r1,r2) := by first | (rw [hy293];with_reducible exact H) | (have H2_ := (Option.bind_some _ _).symm.trans H;rw [hy293];with_reducible exact H2_) | (have H2_ := (Option.bind_some _ _).symm.trans H;with_reducible exact H2_) | with_reducible exact H | (rw [hy293];exact H) | exact H
    have Ny293 := Aside0.mk hy293
    clear hy293
    have HC7 := Aside0.mk H
    clear H
    go_upto_region 4 with (first | ((with_reducible refine gate_dst (N := 18) rfl ?_);refine Kd.R_lit (Kd.int .u32) _ 43 ?hg (N := 18) ?hd (xs := ([1] : List Int)) (inner := [.int .u32 1]) (ok := fun _ => True) (okp := fun _ => True) ?hr ?hp (fun _ hk => hk) trivial (Below.refl _ _) (Nat.le_refl _) (by simp) ?_;(case hd => rfl);(case hg => rfl);(case hr => first | (go_simp;done) | (go_simp;rfl));(case hp => exact (Reps.one (show Kd.M (Kd.int .u32) _ _ _ 1 [.int .u32 1] from rfl) (Reps.none _ _)));intro v294 w8 ho9 hb hg_ hnew_;clear hg_ hnew_;(first | rw [← Ny293.out] at ho9 | (simp only [Int.reduceToNat] at ho9;rw [← Ny293.out] at ho9));have HO295 := Aside0.mk (Kd.R_lower ho9 (below_size bl_));replace HB := Aside0.mk (below_step bl_ hb);clear hb ho9))
    (try simp only [Act.put,List.setIfInBounds_toArray,List.set_cons_zero,List.set_cons_succ])
    go_cut [19] (fun v19 wc => ∃ (kq : Nat) (x19_6 : Bool),v19 = .bool x19_6 ∧ Aside0 (nat_Pow.j1 kq a0 a1 y293 x19_6 = some (r1,r2)) ∧ Aside0 (kq ≤ kj2) ∧ Aside0 (Kd.R (Kd.int .u32) 43 wc w.heap.size (fun _ => True) v294 y293) ∧ Aside0 (Below w.heap.size w wc))
    case first =>
     have H := HC7.out
     clear HC7
     by_cases c10 : a0 = 0
     ·rw [if_pos c10] at H
      have c10b0 : (a0 == 0) = true := beq_iff_eq.mpr c10
      have c10b1 : (a0 != 0) = false := bne_eq_false_iff_eq.mpr c10
      clear c10
      (first | rw [c10b0] | (simp only [i64_w,i32_w];rw [c10b0]) | rw [c10b1] | (simp only [i64_w,i32_w];rw [c10b1]) | skip)
      have H' := Aside0.mk H
      clear H
      go_wp2
      go_meet
      case rel => exact ⟨_,(decide (a1 > 0)),(by first | rfl | (simp;done) | (simp [*];done)),H',⟨by have := HJ2.out;first | omega | exact Nat.le_refl _⟩,⟨by (with_reducible repeat (first | apply Kd.R_alloc | apply Kd.R_drewN | apply Kd.R_drew));exact HO295.out⟩,⟨by repeat (first | (with_reducible first | exact HB.out | apply below_alloc | apply pw_below_drewN | apply below_drew1) | exact HB.out)⟩⟩
     ·rw [if_neg c10] at H
      have c10b0 : (a0 == 0) = false := beq_eq_false_iff_ne.mpr c10
      have c10b1 : (a0 != 0) = true := bne_iff_ne.mpr c10
      (first | rw [c10b0] | (simp only [i64_w,i32_w];rw [c10b0]) | rw [c10b1] | (simp only [i64_w,i32_w];rw [c10b1]) | skip)
      have H' := Aside0.mk H
      clear H
      go_wp2
      go_meet
      case rel => exact ⟨_,(false),(by first | rfl | (simp;done) | (simp [*];done)),H',⟨by have := HJ2.out;first | omega | exact Nat.le_refl _⟩,⟨by (with_reducible repeat (first | apply Kd.R_alloc | apply Kd.R_drewN | apply Kd.R_drew));exact HO295.out⟩,⟨by repeat (first | (with_reducible first | exact HB.out | apply below_alloc | apply pw_below_drewN | apply below_drew1) | exact HB.out)⟩⟩
    case rest =>
     clear HC7
     try clear c1
     try clear p2
     try clear c4
     try clear c4b0
     try clear c4b1
     try clear c5
     try clear c5b0
     try clear c6
     try clear c10
     try clear c10b0
     try clear c10b1
     try clear p2
     obtain ⟨kq,x19_6,rfl,HA,HJ6,HO_6,HB⟩ := hcut
     cases kq with
     | zero => exact absurd HA.out (by simp [nat_Pow.j1])
     | succ kj6 =>
      have H := HA.out
      clear HA
      simp only [nat_Pow.j1] at H
      by_cases c11 : x19_6 = true
      ·subst c11
       have H1 : (some (([] : List Int),0)) = some (r1,r2) := by rw [if_pos rfl] at H;exact H
       clear H
       have H := H1
       clear H1
       simp only [Option.some.injEq,Prod.mk.injEq] at H
       obtain ⟨rfl,rfl⟩ := H
       go_wp2
       go_ret2
       exact ⟨_,by first | rfl | (simp [errW_none,errW_some] <;> rfl) | (simp [*,errW_none,errW_some] <;> rfl),by first | exact Kd.R_nil _ _ _ _ _ | exact Kd.N_nil _ _ _ _ _ | exact Kd.V_nil _ _ _ _ _ | exact Kd.Q_nil _ _ _ _ _ | exact Kd.S_nil _ _ _ _ _,by repeat (first | (with_reducible first | exact HB.out | apply below_alloc | apply pw_below_drewN | apply below_drew1) | exact HB.out)⟩
      ·replace c11 := Bool.eq_false_iff.mpr c11
       subst c11
       have H1 : (if a0 ≤ 1 then (some (y293,0)) else (nat_Pow.l0 kj6 a0 y293 a1 0)) = some (r1,r2) := by rw [if_neg (show ¬ (false = true) by decide)] at H;exact H
       clear H
       have H := H1
       clear H1
       by_cases c12 : a0 ≤ 1
       ·rw [if_pos c12] at H
        have c12b0 : decide (a0 ≤ 1) = true := decide_eq_true c12
        clear c12
        simp only [Option.some.injEq,Prod.mk.injEq] at H
        obtain ⟨rfl,rfl⟩ := H
        go_wp2
        go_ret2
        exact ⟨_,by first | rfl | (simp [errW_none,errW_some] <;> rfl) | (simp [*,errW_none,errW_some] <;> rfl),by (with_reducible repeat (first | apply Kd.R_alloc | apply Kd.R_drewN | apply Kd.R_drew));exact HO_6.out,by repeat (first | (with_reducible first | exact HB.out | apply below_alloc | apply pw_below_drewN | apply below_drew1) | exact HB.out)⟩
       ·rw [if_neg c12] at H
        have c12b0 : decide (a0 ≤ 1) = false := decide_eq_false c12
        clear c12
        have H' := Aside0.mk H
        clear H
        go_wp2
        go_loopg [6,31] kj6 (fun kq v6 v31 w' => ∃ (x6_3 : List Int) (x31_3 : Int),v31 = .int .i64 x31_3 ∧ Aside0 (nat_Pow.l0 kq a0 x6_3 a1 x31_3 = some (r1,r2)) ∧ Aside0 (kq ≤ kj6) ∧ Aside0 (Kd.R (Kd.int .u32) 43 w' w.heap.size (fun _ => True) v6 x6_3) ∧ Aside0 (Below w.heap.size w w'))
        case atStart => exact ⟨(y293),(0),(by first | rfl | (simp;done) | (simp [*];done)),H',⟨Nat.le_refl _⟩,⟨by (with_reducible repeat (first | apply Kd.R_alloc | apply Kd.R_drewN | apply Kd.R_drew));exact HO_6.out⟩,⟨by repeat (first | (with_reducible first | exact HB.out | apply below_alloc | apply pw_below_drewN | apply below_drew1) | exact HB.out)⟩⟩
        case round =>
         clear H'
         try clear c1
         try clear p2
         try clear c4
         try clear c4b0
         try clear c4b1
         try clear c5
         try clear c5b0
         try clear c6
         try clear c10
         try clear c10b0
         try clear c10b1
         try clear c11
         try clear c12
         try clear c12b0
         try clear p2
         obtain ⟨x6_3,x31_3,rfl,HA,HK3,HO_6,HB⟩ := hrel
         cases gk with
         | zero => exact absurd HA.out (by simp [nat_Pow.l0])
         | succ k3 =>
          have H := HA.out
          clear HA
          simp only [nat_Pow.l0] at H
          by_cases c13 : x31_3 < a1
          ·rw [if_pos c13] at H
           have c13b0 : decide (x31_3 < a1) = true := decide_eq_true c13
           clear c13
           replace H := Option.bind_eq_some_iff.mp H
           obtain ⟨t296,A140,H⟩ := H
           replace H : ((nat_Mul.f k3 x6_3 t296).bind fun bt299 => (if bt299.2 = 0 then (nat_Pow.l0 k3 a0 bt299.1 a1 (wrap64 (x31_3 + 1))) else (some (([] : List Int),bt299.2)))) = some (r1,r2) := H
           have A14 := Aside0.mk A140
           clear A140
           replace H := Option.bind_eq_some_iff.mp H
           obtain ⟨⟨t299,t302⟩,A150,H⟩ := H
           replace H : (if t302 = 0 then (nat_Pow.l0 k3 a0 t299 a1 (wrap64 (x31_3 + 1))) else (some (([] : List Int),t302))) = some (r1,r2) := H
           have A15 := Aside0.mk A150
           clear A150
           by_cases c16 : t302 = 0
           ·rw [if_pos c16] at H
            have c16b0 : (t302 == 0) = true := beq_iff_eq.mpr c16
            have c16b1 : (t302 != 0) = false := bne_eq_false_iff_eq.mpr c16
            clear c16
            have H' := Aside0.mk H
            clear H
            go_wp2_with (first | ((with_reducible refine gate_callee (f := 22) rfl ?_);refine goesL_ (some 37) rfl rfl Tryd.func22 (by kernel_rfl) rfl #[.int .u64 (IntKind.u64.wrap (a0))] rfl am_ ?_;(with_reducible refine (nat_Of.calls k3 (IntKind.u64.wrap (a0)) t296 _ A14.out).mono ?_);rintro e w17 ⟨v297,rfl,ho0,hb⟩;refine ⟨_,rfl,?_⟩;have HO298 := Aside0.mk (Kd.R_lower (Kd.R_new' ho0 (Kd.R_lt (ra_ HO_6.out))) (below_size bl_));replace HO_6 := Aside0.mk (Kd.R_elder' (ra_ HO_6.out) (Kd.R_base ho0) hb);replace HB := Aside0.mk (below_step bl_ hb);(try clear hb);(try clear hb2);(try clear hk);(try clear hi);(try clear ho0);obtain ⟨Ao18,co18,eo18⟩ := Kd.R_slice HO_6.out;subst eo18;obtain ⟨Ao19,co19,eo19⟩ := Kd.R_slice HO298.out;subst eo19) | ((with_reducible refine gate_callee (f := 12) rfl ?_);refine goesL_ (some 38) rfl rfl Tryd.func12 (by kernel_rfl) rfl #[.slice Ao18 x6_3.length co18,.slice Ao19 t296.length co19] rfl am_ ?_;(with_reducible refine (nat_Mul.calls k3 (fun k_ => some k_ = (.slice Ao18 x6_3.length co18 : Value).ownBlock) _ _ x6_3 (fun k_ => some k_ = (.slice Ao19 t296.length co19 : Value).ownBlock) _ _ t296 t299 t302 _ ?side1 ?side2 A15.out).mono ?_);(case side1 => exact Kd.R_V (Kd.R_tight rfl (HO_6.out)));(case side2 => exact Kd.R_V (Kd.R_tight rfl (HO298.out)));rintro e w20 ⟨v300,rfl,ho0,hb⟩;refine ⟨_,rfl,?_⟩;have HO301 := Aside0.mk (Kd.R_lower (Kd.R_new' (Kd.R_new' (Kd.R_mono (ok' := fun k_ => True) ho0 (fun _ hk_ => trivial)) (Kd.R_lt (ra_ HO_6.out))) (Kd.R_lt (ra_ HO298.out))) (below_size bl_));replace HO_6 := Aside0.mk (Kd.R_elder' (ra_ HO_6.out) (Kd.R_base ho0) hb);replace HO298 := Aside0.mk (Kd.R_elder' (ra_ HO298.out) (Kd.R_base ho0) hb);replace HB := Aside0.mk (below_step bl_ hb);(try clear hb);(try clear hb2);(try clear hk);(try clear hi);(try clear ho0)))
            go_roundg k3
            case measure => have := HJ2.out;have := HJ6.out;have := HK3.out;omega
            case rel => exact ⟨(t299),(wrap64 (x31_3 + 1)),(by first | rfl | (simp;done) | (simp [*];done)),H',⟨by have := HJ2.out;have := HJ6.out;have := HK3.out;omega⟩,⟨by (with_reducible repeat (first | apply Kd.R_alloc | apply Kd.R_drewN | apply Kd.R_drew));exact Kd.R_mono HO301.out (fun _ hk => trivial)⟩,⟨by repeat (first | (with_reducible first | exact HB.out | apply below_alloc | apply pw_below_drewN | apply below_drew1) | exact HB.out)⟩⟩
           ·rw [if_neg c16] at H
            have c16b0 : (t302 == 0) = false := beq_eq_false_iff_ne.mpr c16
            have c16b1 : (t302 != 0) = true := bne_iff_ne.mpr c16
            simp only [Option.some.injEq,Prod.mk.injEq] at H
            obtain ⟨rfl,rfl⟩ := H
            go_wp2_with (first | ((with_reducible refine gate_callee (f := 22) rfl ?_);refine goesL_ (some 37) rfl rfl Tryd.func22 (by kernel_rfl) rfl #[.int .u64 (IntKind.u64.wrap (a0))] rfl am_ ?_;(with_reducible refine (nat_Of.calls k3 (IntKind.u64.wrap (a0)) t296 _ A14.out).mono ?_);rintro e w21 ⟨v297,rfl,ho0,hb⟩;refine ⟨_,rfl,?_⟩;have HO298 := Aside0.mk (Kd.R_lower (Kd.R_new' ho0 (Kd.R_lt (ra_ HO_6.out))) (below_size bl_));replace HO_6 := Aside0.mk (Kd.R_elder' (ra_ HO_6.out) (Kd.R_base ho0) hb);replace HB := Aside0.mk (below_step bl_ hb);(try clear hb);(try clear hb2);(try clear hk);(try clear hi);(try clear ho0);obtain ⟨Ao22,co22,eo22⟩ := Kd.R_slice HO_6.out;subst eo22;obtain ⟨Ao23,co23,eo23⟩ := Kd.R_slice HO298.out;subst eo23) | ((with_reducible refine gate_callee (f := 12) rfl ?_);refine goesL_ (some 38) rfl rfl Tryd.func12 (by kernel_rfl) rfl #[.slice Ao22 x6_3.length co22,.slice Ao23 t296.length co23] rfl am_ ?_;(with_reducible refine (nat_Mul.calls k3 (fun k_ => some k_ = (.slice Ao22 x6_3.length co22 : Value).ownBlock) _ _ x6_3 (fun k_ => some k_ = (.slice Ao23 t296.length co23 : Value).ownBlock) _ _ t296 t299 t302 _ ?side1 ?side2 A15.out).mono ?_);(case side1 => exact Kd.R_V (Kd.R_tight rfl (HO_6.out)));(case side2 => exact Kd.R_V (Kd.R_tight rfl (HO298.out)));rintro e w24 ⟨v300,rfl,ho0,hb⟩;refine ⟨_,rfl,?_⟩;have HO301 := Aside0.mk (Kd.R_lower (Kd.R_new' (Kd.R_new' (Kd.R_mono (ok' := fun k_ => True) ho0 (fun _ hk_ => trivial)) (Kd.R_lt (ra_ HO_6.out))) (Kd.R_lt (ra_ HO298.out))) (below_size bl_));replace HO_6 := Aside0.mk (Kd.R_elder' (ra_ HO_6.out) (Kd.R_base ho0) hb);replace HO298 := Aside0.mk (Kd.R_elder' (ra_ HO298.out) (Kd.R_base ho0) hb);replace HB := Aside0.mk (below_step bl_ hb);(try clear hb);(try clear hb2);(try clear hk);(try clear hi);(try clear ho0)))
            go_ret2
            exact ⟨_,by first | rfl | (simp [errW_none,errW_some] <;> rfl) | (simp [*,errW_none,errW_some] <;> rfl),by first | exact Kd.R_nil _ _ _ _ _ | exact Kd.N_nil _ _ _ _ _ | exact Kd.V_nil _ _ _ _ _ | exact Kd.Q_nil _ _ _ _ _ | exact Kd.S_nil _ _ _ _ _,by repeat (first | (with_reducible first | exact HB.out | apply below_alloc | apply pw_below_drewN | apply below_drew1) | exact HB.out)⟩
          ·rw [if_neg c13] at H
           have c13b0 : decide (x31_3 < a1) = false := decide_eq_false c13
           clear c13
           simp only [Option.some.injEq,Prod.mk.injEq] at H
           obtain ⟨rfl,rfl⟩ := H
           go_wp2
           go_ret2
           exact ⟨_,by first | rfl | (simp [errW_none,errW_some] <;> rfl) | (simp [*,errW_none,errW_some] <;> rfl),by (with_reducible repeat (first | apply Kd.R_alloc | apply Kd.R_drewN | apply Kd.R_drew));exact HO_6.out,by repeat (first | (with_reducible first | exact HB.out | apply below_alloc | apply pw_below_drewN | apply below_drew1) | exact HB.out)⟩

/-! ### nat_Digits: function 19 -/
def nat_Digits.l0 : Nat → List Int → ByteArray → Option (ByteArray)
 | 0,_,_ => none
 | k + 1,x3,x4 => if (x3.length : Int) > 0 then ((nat_short.f k x3 1000000000).bind fun bt306 => ((strconv_Itoa.f (wrap64 (bt306.1))).bind fun t308 => ((nat_right.f k bt306.2).bind fun t309 => (if 0 ≤ t309 then (if t309 ≤ (x3.length : Int) then ((some (bt306.2.take (t309 : Int).toNat : List Int)).bind fun y310 => (if (y310.length : Int) > 0 then ((strings_Repeat.f (⟨#[48]⟩ : ByteArray) (wrap64 (9 - (t308.size : Int)))).bind fun t313 => (if t313.size + t308.size ≤ 9223372036854775807 then (if (t313 ++ t308).size + x4.size ≤ 9223372036854775807 then (nat_Digits.l0 k y310 ((t313 ++ t308) ++ x4)) else (none)) else (none))) else (if t308.size + x4.size ≤ 9223372036854775807 then (nat_Digits.l0 k y310 (t308 ++ x4)) else (none)))) else (none)) else (none))))) else (some x4)
def nat_Digits.f (k : Nat) (l0 : List Int) : Option (ByteArray) := (nat_Trim.f k l0).bind fun t303 => (if (t303.length : Int) = 0 then (some (⟨#[48]⟩ : ByteArray)) else (nat_Digits.l0 k t303 (⟨#[]⟩ : ByteArray)))
set_option maxHeartbeats 8000000 in
set_option maxRecDepth 100000 in
theorem nat_Digits.calls (k : Nat) (A0 : Option Addr) (c0 : Nat) (l0 : List Int) (r : ByteArray) (w : World) (hT : Tabs w) (hr0 : Kd.C (Kd.int .u32) w A0 l0.length l0) (hc0 : l0.length ≤ c0) (h : nat_Digits.f k l0 = some r) :
  Calls Tryd.prog 19 #[.slice A0 l0.length c0] w fun e w' => e = .returned (.string r) ∧ Below w.heap.size w w' := by
 have HT := Aside0.mk hT
 clear hT
 have HR0 := Aside0.mk hr0
 have HC0 := Aside0.mk hc0
 clear hr0 hc0
 have HB := Aside0.mk (Below.refl w.heap.size w)
 have H : ((nat_Trim.f k l0).bind fun t303 => (if (t303.length : Int) = 0 then (some (⟨#[48]⟩ : ByteArray)) else (nat_Digits.l0 k t303 (⟨#[]⟩ : ByteArray)))) = some r := h
 clear h
 replace H := Option.bind_eq_some_iff.mp H
 obtain ⟨t303,A20,H⟩ := H
 replace H : (if (t303.length : Int) = 0 then (some (⟨#[48]⟩ : ByteArray)) else (nat_Digits.l0 k t303 (⟨#[]⟩ : ByteArray))) = some r := H
 have A2 := Aside0.mk A20
 clear A20
 by_cases c3 : (t303.length : Int) = 0
 ·rw [if_pos c3] at H
  have c3b0 : ((t303.length : Int) == 0) = true := beq_iff_eq.mpr c3
  have c3b1 : ((t303.length : Int) != 0) = false := bne_eq_false_iff_eq.mpr c3
  clear c3
  obtain rfl := Option.some.inj H
  go_enter Tryd.func19,Tryd.ntmps19
  go_wp2_with (first | ((with_reducible refine gate_callee (f := 11) rfl ?_);refine goesL_ (some 7) rfl rfl Tryd.func11 (by kernel_rfl) rfl #[.slice A0 l0.length c0] rfl am_ ?_;(with_reducible refine (nat_Trim.calls k _ _ l0 t303 _ ?side1 ?side2 A2.out).mono ?_);(case side1 => exact ca_ HR0.out);(case side2 => exact HC0.out);rintro e w4 ⟨v304,rfl,ho0,hb⟩;refine ⟨_,rfl,?_⟩;have HO305 := Aside0.mk (Kd.R_lower ho0 (below_size bl_));replace HB := Aside0.mk (below_step bl_ hb);(try clear hb);(try clear hb2);(try clear hk);(try clear hi);(try clear ho0);obtain ⟨Ao5,co5,eo5⟩ := Kd.R_slice HO305.out;subst eo5))
  go_ret
  exact ⟨by first | rfl | (simp [errW_none,errW_some] <;> rfl) | (simp [*,errW_none,errW_some] <;> rfl),by repeat (first | (with_reducible first | exact HB.out | apply below_alloc | apply pw_below_drewN | apply below_drew1) | exact HB.out)⟩
 ·rw [if_neg c3] at H
  have c3b0 : ((t303.length : Int) == 0) = false := beq_eq_false_iff_ne.mpr c3
  have c3b1 : ((t303.length : Int) != 0) = true := bne_iff_ne.mpr c3
  have c3b2 : ¬ (t303 = []) := fun h_ => c3 (by rw [h_];rfl)
  have H' := Aside0.mk H
  clear H
  go_enter Tryd.func19,Tryd.ntmps19
  go_wp2_with (first | ((with_reducible refine gate_callee (f := 11) rfl ?_);refine goesL_ (some 7) rfl rfl Tryd.func11 (by kernel_rfl) rfl #[.slice A0 l0.length c0] rfl am_ ?_;(with_reducible refine (nat_Trim.calls k _ _ l0 t303 _ ?side1 ?side2 A2.out).mono ?_);(case side1 => exact ca_ HR0.out);(case side2 => exact HC0.out);rintro e w6 ⟨v304,rfl,ho0,hb⟩;refine ⟨_,rfl,?_⟩;have HO305 := Aside0.mk (Kd.R_lower ho0 (below_size bl_));replace HB := Aside0.mk (below_step bl_ hb);(try clear hb);(try clear hb2);(try clear hk);(try clear hi);(try clear ho0);obtain ⟨Ao7,co7,eo7⟩ := Kd.R_slice HO305.out;subst eo7))
  go_loopg [3,4] k (fun kq v3 v4 w' => ∃ (x3_1 : List Int) (x4_1 : ByteArray),v4 = .string x4_1 ∧ Aside0 (nat_Digits.l0 kq x3_1 x4_1 = some r) ∧ Aside0 (kq ≤ k) ∧ Aside0 (Kd.R (Kd.int .u32) 43 w' w.heap.size (fun _ => True) v3 x3_1) ∧ Aside0 (Below w.heap.size w w'))
  case atStart => exact ⟨(t303),((⟨#[]⟩ : ByteArray)),(by first | rfl | (simp;done) | (simp [*];done)),H',⟨Nat.le_refl _⟩,⟨by (with_reducible repeat (first | apply Kd.R_alloc | apply Kd.R_drewN | apply Kd.R_drew));exact HO305.out⟩,⟨by repeat (first | (with_reducible first | exact HB.out | apply below_alloc | apply pw_below_drewN | apply below_drew1) | exact HB.out)⟩⟩
  case round =>
   clear H'
   try clear c1
   try clear p2
   try clear c3
   try clear c3b0
   try clear c3b1
   try clear c3b2
   obtain ⟨x3_1,x4_1,rfl,HA,HK1,HO_3,HB⟩ := hrel
   cases gk with
   | zero => exact absurd HA.out (by simp [nat_Digits.l0])
   | succ k1 =>
    have H := HA.out
    clear HA
    simp only [nat_Digits.l0] at H
    by_cases c8 : (x3_1.length : Int) > 0
    ·rw [if_pos c8] at H
     have c8b0 : decide (0 < (x3_1.length : Int)) = true := decide_eq_true c8
     have c8b1 : decide (0 < x3_1.length) = true := decide_eq_true (by omega)
     clear c8
     replace H := Option.bind_eq_some_iff.mp H
     obtain ⟨⟨t306,t307⟩,A90,H⟩ := H
     replace H : ((strconv_Itoa.f (wrap64 (t306))).bind fun t308 => ((nat_right.f k1 t307).bind fun t309 => (if 0 ≤ t309 then (if t309 ≤ (x3_1.length : Int) then ((some (t307.take (t309 : Int).toNat : List Int)).bind fun y310 => (if (y310.length : Int) > 0 then ((strings_Repeat.f (⟨#[48]⟩ : ByteArray) (wrap64 (9 - (t308.size : Int)))).bind fun t313 => (if t313.size + t308.size ≤ 9223372036854775807 then (if (t313 ++ t308).size + x4_1.size ≤ 9223372036854775807 then (nat_Digits.l0 k1 y310 ((t313 ++ t308) ++ x4_1)) else (none)) else (none))) else (if t308.size + x4_1.size ≤ 9223372036854775807 then (nat_Digits.l0 k1 y310 (t308 ++ x4_1)) else (none)))) else (none)) else (none)))) = some r := H
     have A9 := Aside0.mk A90
     clear A90
     replace H := Option.bind_eq_some_iff.mp H
     obtain ⟨t308,A100,H⟩ := H
     replace H : ((nat_right.f k1 t307).bind fun t309 => (if 0 ≤ t309 then (if t309 ≤ (x3_1.length : Int) then ((some (t307.take (t309 : Int).toNat : List Int)).bind fun y310 => (if (y310.length : Int) > 0 then ((strings_Repeat.f (⟨#[48]⟩ : ByteArray) (wrap64 (9 - (t308.size : Int)))).bind fun t313 => (if t313.size + t308.size ≤ 9223372036854775807 then (if (t313 ++ t308).size + x4_1.size ≤ 9223372036854775807 then (nat_Digits.l0 k1 y310 ((t313 ++ t308) ++ x4_1)) else (none)) else (none))) else (if t308.size + x4_1.size ≤ 9223372036854775807 then (nat_Digits.l0 k1 y310 (t308 ++ x4_1)) else (none)))) else (none)) else (none))) = some r := H
     have A10 := Aside0.mk A100
     clear A100
     replace H := Option.bind_eq_some_iff.mp H
     obtain ⟨t309,A110,H⟩ := H
     replace H : (if 0 ≤ t309 then (if t309 ≤ (x3_1.length : Int) then ((some (t307.take (t309 : Int).toNat : List Int)).bind fun y310 => (if (y310.length : Int) > 0 then ((strings_Repeat.f (⟨#[48]⟩ : ByteArray) (wrap64 (9 - (t308.size : Int)))).bind fun t313 => (if t313.size + t308.size ≤ 9223372036854775807 then (if (t313 ++ t308).size + x4_1.size ≤ 9223372036854775807 then (nat_Digits.l0 k1 y310 ((t313 ++ t308) ++ x4_1)) else (none)) else (none))) else (if t308.size + x4_1.size ≤ 9223372036854775807 then (nat_Digits.l0 k1 y310 (t308 ++ x4_1)) else (none)))) else (none)) else (none)) = some r := H
     have A11 := Aside0.mk A110
     clear A110
     by_cases c12 : 0 ≤ t309
     ·rw [if_pos c12] at H
      have c12b0 := eq_true c12
      have c12b1 : decide (0 ≤ t309) = true := decide_eq_true c12
      clear c12
      by_cases c13 : t309 ≤ (x3_1.length : Int)
      ·rw [if_pos c13] at H
       have c13b0 := eq_true c13
       have c13b1 : decide (t309 ≤ (x3_1.length : Int)) = true := decide_eq_true c13
       clear c13
       obtain ⟨y310,hy310⟩ : ∃ y_ : List Int,y_ = (t307.take (t309 : Int).toNat) := ⟨_,rfl⟩
       replace H : (if (y310.length : Int) > 0 then ((strings_Repeat.f (⟨#[48]⟩ : ByteArray) (wrap64 (9 - (t308.size : Int)))).bind fun t313 => (if t313.size + t308.size ≤ 9223372036854775807 then (if (t313 ++ t308).size + x4_1.size ≤ 9223372036854775807 then (nat_Digits.l0 k1 y310 ((t313 ++ t308) ++ x4_1)) else (none)) else (none))) else (if t308.size + x4_1.size ≤ 9223372036854775807 then (nat_Digits.l0 k1 y310 (t308 ++ x4_1)) else (none))) = some r := by first | (rw [hy310];with_reducible exact H) | (have H2_ := (Option.bind_some _ _).symm.trans H;rw [hy310];with_reducible exact H2_) | (have H2_ := (Option.bind_some _ _).symm.trans H;with_reducible exact H2_) | with_reducible exact H | (rw [hy310];exact H) | exact H
       have Ny310 := Aside0.mk hy310
       clear hy310
       by_cases c14 : (y310.length : Int) > 0
       ·rw [if_pos c14] at H
        have c14b0 : decide (0 < (y310.length : Int)) = true := decide_eq_true c14
        have c14b1 : decide (0 < y310.length) = true := decide_eq_true (by omega)
        clear c14
        replace H := Option.bind_eq_some_iff.mp H
        obtain ⟨t313,A150,H⟩ := H
        replace H : (if t313.size + t308.size ≤ 9223372036854775807 then (if (t313 ++ t308).size + x4_1.size ≤ 9223372036854775807 then (nat_Digits.l0 k1 y310 ((t313 ++ t308) ++ x4_1)) else (none)) else (none)) = some r := H
        have A15 := Aside0.mk A150
        clear A150
        by_cases c16 : t313.size + t308.size ≤ 9223372036854775807
        ·rw [if_pos c16] at H
         have c16b0 := eq_true c16
         have c16b1 : decide (t313.size + t308.size ≤ 9223372036854775807) = true := decide_eq_true c16
         try have c16b2 : (9223372036854775807 < t313.size + t308.size) = False := eq_false (Nat.not_lt.2 c16)
         by_cases c17 : (t313 ++ t308).size + x4_1.size ≤ 9223372036854775807
         ·rw [if_pos c17] at H
          have c17b0 := eq_true c17
          have c17b1 : decide ((t313 ++ t308).size + x4_1.size ≤ 9223372036854775807) = true := decide_eq_true c17
          try have c17b2 : (9223372036854775807 < (t313 ++ t308).size + x4_1.size) = False := eq_false (Nat.not_lt.2 c17)
          (try (have c17z := c17;simp [ByteArray.size_extract,ByteArray.size_append,size_lit] at c17z))
          (try (have c17z2 := eq_false (Nat.not_lt.2 c17z)))
          have H' := Aside0.mk H
          clear H
          obtain ⟨Ao18,co18,eo18⟩ := Kd.R_slice HO_3.out
          subst eo18
          have e0_ : wrap64 (9 - (t308.size : Int)) = 9 - (t308.size : Int) := by unfold wrap64;omega
          rw [e0_] at A15
          clear e0_
          go_wp2_with (first | ((with_reducible refine gate_callee (f := 30) rfl ?_);refine goesL_ (some 15) rfl rfl Tryd.func30 (by kernel_rfl) rfl #[.slice Ao18 x3_1.length co18,.int .u32 1000000000] rfl am_ ?_;(with_reducible refine (nat_short.calls k1 (fun k_ => some k_ = (.slice Ao18 x3_1.length co18 : Value).ownBlock) (.slice Ao18 x3_1.length co18) x3_1 1000000000 t306 t307 w _ ?side1 ?side2 A9.out).mono ?_);(case side1 => repeat (first | (with_reducible first | exact HB.out | apply below_alloc | apply pw_below_drewN | apply below_drew1) | exact HB.out));(case side2 => exact Kd.R_tight rfl HO_3.out);rintro e w19 ⟨rfl,hy0,hb,hkp⟩;refine ⟨_,rfl,?_⟩;replace HO_3 := Aside0.mk (Kd.R_reok rfl hy0 (fun k_ e_ => HO_3.out.1 k_ e_));replace HB := Aside0.mk (hb);(try clear hb);(try clear hkp);(try clear hy0)) | ((with_reducible refine gate_callee (f := 34) rfl ?_);refine goesL_ (some 17) rfl rfl Tryd.func34 (by kernel_rfl) rfl #[.int .i64 (wrap64 (t306))] rfl am_ ?_;(with_reducible refine (strconv_Itoa.calls (wrap64 (t306)) t308 _ ?side1 A10.out).mono ?_);(case side1 => exact Tabs.below HT.out bl_);rintro e w20 ⟨rfl,hb⟩;refine ⟨_,rfl,?_⟩;replace HO_3 := Aside0.mk (Kd.R_below (ra_ HO_3.out) hb);replace HB := Aside0.mk (below_step bl_ hb);(try clear hb);(try clear hb2);(try clear hk);(try clear hi)) | ((with_reducible refine gate_callee (f := 25) rfl ?_);refine goesL_ (some 19) rfl rfl Tryd.func25 (by kernel_rfl) rfl #[.slice Ao18 t307.length co18] rfl (by (try simp only [List.map_toArray,List.map_cons,List.map_nil]);first | done | (rw [show t307.length = x3_1.length from (Kd.R_reads' HO_3.out).1.symm] <;> rfl) | rfl | (simp only [List.length_drop,List.length_take];rfl)) ?_;(with_reducible refine (nat_cut_read.calls (l' := y310) (hl' := Ny310.out) k1 _ _ t307 t309 _ ?side1 ?side2 A11.out).mono ?_);(case side1 => exact ca_ (Kd.R_reads' HO_3.out).2.2);(case side2 => rw [show t307.length = x3_1.length from (Kd.R_reads' HO_3.out).1.symm];exact (Kd.R_reads' HO_3.out).2.1);rintro e w' ⟨rfl,⟨nd,rfl⟩⟩;refine ⟨_,rfl,?_⟩;have q21 : (t309 : Int) ≤ ((x3_1.length : Int) : Int) := od_;obtain ⟨i021,hi021,_,hsz21,_⟩ := info_parts info43;have hcut21 := cut_to (P := Tryd.prog) 24 43 .i64 Tryd.underlying24 hi021 Ao18 x3_1.length co18 t309 od_ q21 (Kd.R_reads' HO_3.out).2.1;have hr21 := Kd.R_take (m := (t309 : Int).toNat) HO_3.out (by have e_ := (Kd.R_reads' HO_3.out).1;omega);have hy21 : y310.length = (t309 : Int).toNat := (by have e_ := (Kd.R_reads' HO_3.out).1;rw [Ny310.out,List.length_take];omega);rw [← Ny310.out] at hr21;rw [← hy21] at hr21 hcut21;clear hy21 hi021 hsz21 HO_3;have HO312 := Aside0.mk hr21;clear hr21;replace q21 := eq_true q21) | ((with_reducible refine gate_callee (f := 35) rfl ?_);refine goesL_ (some 26) rfl rfl Tryd.func35 (by kernel_rfl) rfl #[.string (⟨#[48]⟩ : ByteArray),.int .i64 (9 - (t308.size : Int))] rfl am_ ?_;(with_reducible refine (strings_Repeat.calls (⟨#[48]⟩ : ByteArray) (9 - (t308.size : Int)) t313 _ A15.out).mono ?_);rintro e w22 ⟨rfl,hb⟩;refine ⟨_,rfl,?_⟩;replace HO312 := Aside0.mk (Kd.R_below (ra_ HO312.out) hb);replace HB := Aside0.mk (below_step bl_ hb);(try clear hb);(try clear hb2);(try clear hk);(try clear hi)))
          go_roundg k1
          case measure => have := HK1.out;omega
          case rel => exact ⟨(y310),((t313 ++ t308) ++ x4_1),(by first | rfl | (simp;done) | (simp [*];done)),H',⟨by have := HK1.out;omega⟩,⟨by (with_reducible repeat (first | apply Kd.R_alloc | apply Kd.R_drewN | apply Kd.R_drew));exact HO312.out⟩,⟨by repeat (first | (with_reducible first | exact HB.out | apply below_alloc | apply pw_below_drewN | apply below_drew1) | exact HB.out)⟩⟩
         ·rw [if_neg c17] at H
          exact absurd H (by simp)
        ·rw [if_neg c16] at H
         exact absurd H (by simp)
       ·rw [if_neg c14] at H
        have c14b0 : decide (0 < (y310.length : Int)) = false := decide_eq_false c14
        have c14b1 : decide (0 < y310.length) = false := decide_eq_false (by omega)
        clear c14
        by_cases c23 : t308.size + x4_1.size ≤ 9223372036854775807
        ·rw [if_pos c23] at H
         have c23b0 := eq_true c23
         have c23b1 : decide (t308.size + x4_1.size ≤ 9223372036854775807) = true := decide_eq_true c23
         try have c23b2 : (9223372036854775807 < t308.size + x4_1.size) = False := eq_false (Nat.not_lt.2 c23)
         have H' := Aside0.mk H
         clear H
         obtain ⟨Ao24,co24,eo24⟩ := Kd.R_slice HO_3.out
         subst eo24
         go_wp2_with (first | ((with_reducible refine gate_callee (f := 30) rfl ?_);refine goesL_ (some 15) rfl rfl Tryd.func30 (by kernel_rfl) rfl #[.slice Ao24 x3_1.length co24,.int .u32 1000000000] rfl am_ ?_;(with_reducible refine (nat_short.calls k1 (fun k_ => some k_ = (.slice Ao24 x3_1.length co24 : Value).ownBlock) (.slice Ao24 x3_1.length co24) x3_1 1000000000 t306 t307 w _ ?side1 ?side2 A9.out).mono ?_);(case side1 => repeat (first | (with_reducible first | exact HB.out | apply below_alloc | apply pw_below_drewN | apply below_drew1) | exact HB.out));(case side2 => exact Kd.R_tight rfl HO_3.out);rintro e w25 ⟨rfl,hy0,hb,hkp⟩;refine ⟨_,rfl,?_⟩;replace HO_3 := Aside0.mk (Kd.R_reok rfl hy0 (fun k_ e_ => HO_3.out.1 k_ e_));replace HB := Aside0.mk (hb);(try clear hb);(try clear hkp);(try clear hy0)) | ((with_reducible refine gate_callee (f := 34) rfl ?_);refine goesL_ (some 17) rfl rfl Tryd.func34 (by kernel_rfl) rfl #[.int .i64 (wrap64 (t306))] rfl am_ ?_;(with_reducible refine (strconv_Itoa.calls (wrap64 (t306)) t308 _ ?side1 A10.out).mono ?_);(case side1 => exact Tabs.below HT.out bl_);rintro e w26 ⟨rfl,hb⟩;refine ⟨_,rfl,?_⟩;replace HO_3 := Aside0.mk (Kd.R_below (ra_ HO_3.out) hb);replace HB := Aside0.mk (below_step bl_ hb);(try clear hb);(try clear hb2);(try clear hk);(try clear hi)) | ((with_reducible refine gate_callee (f := 25) rfl ?_);refine goesL_ (some 19) rfl rfl Tryd.func25 (by kernel_rfl) rfl #[.slice Ao24 t307.length co24] rfl (by (try simp only [List.map_toArray,List.map_cons,List.map_nil]);first | done | (rw [show t307.length = x3_1.length from (Kd.R_reads' HO_3.out).1.symm] <;> rfl) | rfl | (simp only [List.length_drop,List.length_take];rfl)) ?_;(with_reducible refine (nat_cut_read.calls (l' := y310) (hl' := Ny310.out) k1 _ _ t307 t309 _ ?side1 ?side2 A11.out).mono ?_);(case side1 => exact ca_ (Kd.R_reads' HO_3.out).2.2);(case side2 => rw [show t307.length = x3_1.length from (Kd.R_reads' HO_3.out).1.symm];exact (Kd.R_reads' HO_3.out).2.1);rintro e w' ⟨rfl,⟨nd,rfl⟩⟩;refine ⟨_,rfl,?_⟩;have q27 : (t309 : Int) ≤ ((x3_1.length : Int) : Int) := od_;obtain ⟨i027,hi027,_,hsz27,_⟩ := info_parts info43;have hcut27 := cut_to (P := Tryd.prog) 24 43 .i64 Tryd.underlying24 hi027 Ao24 x3_1.length co24 t309 od_ q27 (Kd.R_reads' HO_3.out).2.1;have hr27 := Kd.R_take (m := (t309 : Int).toNat) HO_3.out (by have e_ := (Kd.R_reads' HO_3.out).1;omega);have hy27 : y310.length = (t309 : Int).toNat := (by have e_ := (Kd.R_reads' HO_3.out).1;rw [Ny310.out,List.length_take];omega);rw [← Ny310.out] at hr27;rw [← hy27] at hr27 hcut27;clear hy27 hi027 hsz27 HO_3;have HO312 := Aside0.mk hr27;clear hr27;replace q27 := eq_true q27))
         go_roundg k1
         case measure => have := HK1.out;omega
         case rel => exact ⟨(y310),(t308 ++ x4_1),(by first | rfl | (simp;done) | (simp [*];done)),H',⟨by have := HK1.out;omega⟩,⟨by (with_reducible repeat (first | apply Kd.R_alloc | apply Kd.R_drewN | apply Kd.R_drew));exact HO312.out⟩,⟨by repeat (first | (with_reducible first | exact HB.out | apply below_alloc | apply pw_below_drewN | apply below_drew1) | exact HB.out)⟩⟩
        ·rw [if_neg c23] at H
         exact absurd H (by simp)
      ·rw [if_neg c13] at H
       exact absurd H (by simp)
     ·rw [if_neg c12] at H
      exact absurd H (by simp)
    ·rw [if_neg c8] at H
     have c8b0 : decide (0 < (x3_1.length : Int)) = false := decide_eq_false c8
     have c8b1 : decide (0 < x3_1.length) = false := decide_eq_false (by omega)
     clear c8
     obtain rfl := Option.some.inj H
     obtain ⟨Ao28,co28,eo28⟩ := Kd.R_slice HO_3.out
     subst eo28
     go_wp2
     go_ret
     exact ⟨by first | rfl | (simp [errW_none,errW_some] <;> rfl) | (simp [*,errW_none,errW_some] <;> rfl),by repeat (first | (with_reducible first | exact HB.out | apply below_alloc | apply pw_below_drewN | apply below_drew1) | exact HB.out)⟩

/-! ### strconv_Atoi: function 38 -/
theorem strconv_Atoi.calls (a0 : ByteArray) (r1 : Int) (r2 : Option Int) (w : World) (h : strconv_Atoi.f a0 = some (r1,r2)) :
  Calls Tryd.prog 38 #[.string a0] w fun e w' => e = .returned (.tuple #[.int .i64 r1,errW r2]) ∧ Below w.heap.size w w' := by
 unfold strconv_Atoi.f at h
 split at h
 ·rename_i hc
  obtain ⟨n,hn,he⟩ := Option.map_eq_some_iff.1 h
  obtain ⟨rfl,rfl⟩ := Prod.mk.inj he
  exact strconv_Atoi_ok a0 n w hc hn
 ·cases h

/-! ### nat_Parse: function 20 -/
mutual
def nat_Parse.j0 : Nat → ByteArray → Bool → Option (List Int × Int)
 | 0,_,_ => none
 | k + 1,x0,x17 => if x17 = true then (some (([] : List Int),3)) else ((strings_TrimLeft.f x0 (⟨#[48]⟩ : ByteArray)).bind fun t315 => (if (t315.size : Int) > 3000 then (some (([] : List Int),2)) else (nat_Parse.l0 k t315 ([] : List Int))))
def nat_Parse.l0 : Nat → ByteArray → List Int → Option (List Int × Int)
 | 0,_,_ => none
 | k + 1,x0,x4 => if (x0.size : Int) > 0 then (if 0 ≤ (mn 9 (x0.size : Int)) then (if (mn 9 (x0.size : Int)) ≤ (x0.size : Int) then ((strconv_Atoi.f (x0.extract 0 ((mn 9 (x0.size : Int)) : Int).toNat)).bind fun bt316 => ((nat_Pow.f k 10 (mn 9 (x0.size : Int))).bind fun bt318 => ((nat_Mul.f k x4 bt318.1).bind fun bt322 => (if bt322.2 = 0 then ((nat_Of.f k (IntKind.u64.wrap (bt316.1))).bind fun t326 => ((nat_Add.f k bt322.1 t326).bind fun bt329 => (if bt329.2 = 0 then (nat_Parse.l0 k (x0.extract ((mn 9 (x0.size : Int)) : Int).toNat x0.size) bt329.1) else (some (([] : List Int),bt329.2))))) else (some (([] : List Int),bt322.2)))))) else (none)) else (none)) else (some (x4,0))
end
def nat_Parse.f (k : Nat) (a0 : ByteArray) : Option (List Int × Int) := if a0.toList = ([] : List UInt8) then (nat_Parse.j0 k a0 true) else ((strings_Trim.f a0 (⟨#[48,49,50,51,52,53,54,55,56,57]⟩ : ByteArray)).bind fun t314 => (nat_Parse.j0 k a0 (t314.toList != ([] : List UInt8))))
set_option maxHeartbeats 8000000 in
set_option maxRecDepth 100000 in
theorem nat_Parse.calls (k : Nat) (a0 : ByteArray) (r1 : List Int) (r2 : Int) (w : World) (h : nat_Parse.f k a0 = some (r1,r2)) :
  Calls Tryd.prog 20 #[.string a0] w fun e w' => ∃ v0_ : Value,e = .returned (.tuple #[v0_,.int .i64 r2]) ∧ Kd.R (Kd.int .u32) 43 w' w.heap.size (fun _ => True) v0_ r1 ∧ Below w.heap.size w w' := by
 have HB := Aside0.mk (Below.refl w.heap.size w)
 have H : (if a0.toList = ([] : List UInt8) then (nat_Parse.j0 k a0 true) else ((strings_Trim.f a0 (⟨#[48,49,50,51,52,53,54,55,56,57]⟩ : ByteArray)).bind fun t314 => (nat_Parse.j0 k a0 (t314.toList != ([] : List UInt8))))) = some (r1,r2) := h
 clear h
 have HC2 := Aside0.mk H
 clear H
 go_enter Tryd.func20,Tryd.ntmps20
 go_upto_region 1 with (fail)
 go_cut [17] (fun v17 wc => ∃ (kq : Nat) (x17_1 : Bool),v17 = .bool x17_1 ∧ Aside0 (nat_Parse.j0 kq a0 x17_1 = some (r1,r2)) ∧ Aside0 (kq ≤ k) ∧ Aside0 (Below w.heap.size w wc))
 case first =>
  have H := HC2.out
  clear HC2
  by_cases c3 : a0.toList = ([] : List UInt8)
  ·rw [if_pos c3] at H
   have c3b0 : (a0.toList == ([] : List UInt8)) = true := beq_iff_eq.mpr c3
   have c3b1 : (a0.toList != ([] : List UInt8)) = false := bne_eq_false_iff_eq.mpr c3
   clear c3
   (first | rw [c3b0] | (simp only [i64_w,i32_w];rw [c3b0]) | rw [c3b1] | (simp only [i64_w,i32_w];rw [c3b1]) | skip)
   have H' := Aside0.mk H
   clear H
   go_wp2
   go_meet
   case rel => exact ⟨_,(true),(by first | rfl | (simp;done) | (simp [*];done)),H',⟨by first | omega | exact Nat.le_refl _⟩,⟨by repeat (first | (with_reducible first | exact HB.out | apply below_alloc | apply pw_below_drewN | apply below_drew1) | exact HB.out)⟩⟩
  ·rw [if_neg c3] at H
   have c3b0 : (a0.toList == ([] : List UInt8)) = false := beq_eq_false_iff_ne.mpr c3
   have c3b1 : (a0.toList != ([] : List UInt8)) = true := bne_iff_ne.mpr c3
   (first | rw [c3b0] | (simp only [i64_w,i32_w];rw [c3b0]) | rw [c3b1] | (simp only [i64_w,i32_w];rw [c3b1]) | skip)
   replace H := Option.bind_eq_some_iff.mp H
   obtain ⟨t314,A40,H⟩ := H
   replace H : (nat_Parse.j0 k a0 (t314.toList != ([] : List UInt8))) = some (r1,r2) := H
   have A4 := Aside0.mk A40
   clear A40
   have H' := Aside0.mk H
   clear H
   go_wp2_with (first | (go_at_call 36;(with_reducible refine (strings_Trim.calls a0 (⟨#[48,49,50,51,52,53,54,55,56,57]⟩ : ByteArray) t314 _ A4.out).mono ?_);rintro e w5 ⟨rfl,hb⟩;replace HB := Aside0.mk (below_step bl_ hb);(try clear hb);(try clear hb2);(try clear hk);(try clear hi)))
   go_meet
   case rel => exact ⟨_,((t314.toList != ([] : List UInt8))),(by first | rfl | (simp;done) | (simp [*];done) | (cases hq_ : t314.toList <;> simp [hq_];done) | (cases hq_ : t314.toList <;> rfl)),H',⟨by first | omega | exact Nat.le_refl _⟩,⟨by repeat (first | (with_reducible first | exact HB.out | apply below_alloc | apply pw_below_drewN | apply below_drew1) | exact HB.out)⟩⟩
 case rest =>
  clear HC2
  try clear c2
  try clear p2
  try clear c3
  try clear c3b0
  try clear c3b1
  obtain ⟨kq,x17_1,rfl,HA,HJ1,HB⟩ := hcut
  cases kq with
  | zero => exact absurd HA.out (by simp [nat_Parse.j0])
  | succ kj1 =>
   have H := HA.out
   clear HA
   simp only [nat_Parse.j0] at H
   by_cases c6 : x17_1 = true
   ·subst c6
    have H1 : (some (([] : List Int),3)) = some (r1,r2) := by rw [if_pos rfl] at H;exact H
    clear H
    have H := H1
    clear H1
    simp only [Option.some.injEq,Prod.mk.injEq] at H
    obtain ⟨rfl,rfl⟩ := H
    go_wp2
    go_ret2
    exact ⟨_,by first | rfl | (simp [errW_none,errW_some] <;> rfl) | (simp [*,errW_none,errW_some] <;> rfl),by first | exact Kd.R_nil _ _ _ _ _ | exact Kd.N_nil _ _ _ _ _ | exact Kd.V_nil _ _ _ _ _ | exact Kd.Q_nil _ _ _ _ _ | exact Kd.S_nil _ _ _ _ _,by repeat (first | (with_reducible first | exact HB.out | apply below_alloc | apply pw_below_drewN | apply below_drew1) | exact HB.out)⟩
   ·replace c6 := Bool.eq_false_iff.mpr c6
    subst c6
    have H1 : ((strings_TrimLeft.f a0 (⟨#[48]⟩ : ByteArray)).bind fun t315 => (if (t315.size : Int) > 3000 then (some (([] : List Int),2)) else (nat_Parse.l0 kj1 t315 ([] : List Int)))) = some (r1,r2) := by rw [if_neg (show ¬ (false = true) by decide)] at H;exact H
    clear H
    have H := H1
    clear H1
    replace H := Option.bind_eq_some_iff.mp H
    obtain ⟨t315,A70,H⟩ := H
    replace H : (if (t315.size : Int) > 3000 then (some (([] : List Int),2)) else (nat_Parse.l0 kj1 t315 ([] : List Int))) = some (r1,r2) := H
    have A7 := Aside0.mk A70
    clear A70
    by_cases c8 : (t315.size : Int) > 3000
    ·rw [if_pos c8] at H
     have c8b0 : decide (3000 < (t315.size : Int)) = true := decide_eq_true c8
     have c8b1 : decide (3000 < t315.size) = true := decide_eq_true (by omega)
     clear c8
     simp only [Option.some.injEq,Prod.mk.injEq] at H
     obtain ⟨rfl,rfl⟩ := H
     go_wp2_with (first | ((with_reducible refine gate_callee (f := 37) rfl ?_);refine goesL_ (some 19) rfl rfl Tryd.func37 (by kernel_rfl) rfl #[.string a0,.string (⟨#[48]⟩ : ByteArray)] rfl am_ ?_;(with_reducible refine (strings_TrimLeft.calls a0 (⟨#[48]⟩ : ByteArray) t315 _ A7.out).mono ?_);rintro e w9 ⟨rfl,hb⟩;refine ⟨_,rfl,?_⟩;replace HB := Aside0.mk (below_step bl_ hb);(try clear hb);(try clear hb2);(try clear hk);(try clear hi)))
     go_ret2
     exact ⟨_,by first | rfl | (simp [errW_none,errW_some] <;> rfl) | (simp [*,errW_none,errW_some] <;> rfl),by first | exact Kd.R_nil _ _ _ _ _ | exact Kd.N_nil _ _ _ _ _ | exact Kd.V_nil _ _ _ _ _ | exact Kd.Q_nil _ _ _ _ _ | exact Kd.S_nil _ _ _ _ _,by repeat (first | (with_reducible first | exact HB.out | apply below_alloc | apply pw_below_drewN | apply below_drew1) | exact HB.out)⟩
    ·rw [if_neg c8] at H
     have c8b0 : decide (3000 < (t315.size : Int)) = false := decide_eq_false c8
     have c8b1 : decide (3000 < t315.size) = false := decide_eq_false (by omega)
     clear c8
     have H' := Aside0.mk H
     clear H
     go_wp2_with (first | ((with_reducible refine gate_callee (f := 37) rfl ?_);refine goesL_ (some 19) rfl rfl Tryd.func37 (by kernel_rfl) rfl #[.string a0,.string (⟨#[48]⟩ : ByteArray)] rfl am_ ?_;(with_reducible refine (strings_TrimLeft.calls a0 (⟨#[48]⟩ : ByteArray) t315 _ A7.out).mono ?_);rintro e w10 ⟨rfl,hb⟩;refine ⟨_,rfl,?_⟩;replace HB := Aside0.mk (below_step bl_ hb);(try clear hb);(try clear hb2);(try clear hk);(try clear hi)))
     go_loopg [0,4] kj1 (fun kq v0 v4 w' => ∃ (x0_2 : ByteArray) (x4_2 : List Int),v0 = .string x0_2 ∧ Aside0 (nat_Parse.l0 kq x0_2 x4_2 = some (r1,r2)) ∧ Aside0 (kq ≤ kj1) ∧ Aside0 (Kd.R (Kd.int .u32) 43 w' w.heap.size (fun _ => True) v4 x4_2) ∧ Aside0 (Below w.heap.size w w'))
     case atStart => exact ⟨(t315),(([] : List Int)),(by first | rfl | (simp;done) | (simp [*];done)),H',⟨Nat.le_refl _⟩,⟨by first | exact Kd.R_nil _ _ _ _ _ | exact Kd.N_nil _ _ _ _ _ | exact Kd.V_nil _ _ _ _ _ | exact Kd.Q_nil _ _ _ _ _ | exact Kd.S_nil _ _ _ _ _⟩,⟨by repeat (first | (with_reducible first | exact HB.out | apply below_alloc | apply pw_below_drewN | apply below_drew1) | exact HB.out)⟩⟩
     case round =>
      clear H'
      try clear c2
      try clear p2
      try clear c3
      try clear c3b0
      try clear c3b1
      try clear c6
      try clear c8
      try clear c8b0
      try clear c8b1
      try clear p2
      obtain ⟨x0_2,x4_2,rfl,HA,HK2,HO_4,HB⟩ := hrel
      cases gk with
      | zero => exact absurd HA.out (by simp [nat_Parse.l0])
      | succ k2 =>
       have H := HA.out
       clear HA
       simp only [nat_Parse.l0] at H
       by_cases c11 : (x0_2.size : Int) > 0
       ·rw [if_pos c11] at H
        have c11b0 : decide (0 < (x0_2.size : Int)) = true := decide_eq_true c11
        have c11b1 : decide (0 < x0_2.size) = true := decide_eq_true (by omega)
        clear c11
        obtain ⟨ji12,hji12⟩ : ∃ j_ : Int,(mn 9 (x0_2.size : Int)) = j_ := ⟨_,rfl⟩
        replace H : (if 0 ≤ (ji12) then (if (ji12) ≤ (x0_2.size : Int) then ((strconv_Atoi.f (x0_2.extract 0 ((ji12) : Int).toNat)).bind fun bt316 => ((nat_Pow.f k2 10 (ji12)).bind fun bt318 => ((nat_Mul.f k2 x4_2 bt318.1).bind fun bt322 => (if bt322.2 = 0 then ((nat_Of.f k2 (IntKind.u64.wrap (bt316.1))).bind fun t326 => ((nat_Add.f k2 bt322.1 t326).bind fun bt329 => (if bt329.2 = 0 then (nat_Parse.l0 k2 (x0_2.extract ((ji12) : Int).toNat x0_2.size) bt329.1) else (some (([] : List Int),bt329.2))))) else (some (([] : List Int),bt322.2)))))) else (none)) else (none)) = some (r1,r2) := by first | (rw [hji12] at H;exact H) | (simp only [hji12] at H ⊢;exact H)
        have hji12_ : (if (x0_2.size : Int) < 9 then (x0_2.size : Int) else 9) = ji12 := hji12
        by_cases c13 : 0 ≤ (ji12)
        ·rw [if_pos c13] at H
         have c13b0 := eq_true c13
         have c13b1 : decide (0 ≤ (ji12)) = true := decide_eq_true c13
         clear c13
         by_cases c14 : (ji12) ≤ (x0_2.size : Int)
         ·rw [if_pos c14] at H
          have c14b0 := eq_true c14
          have c14b1 : decide ((ji12) ≤ (x0_2.size : Int)) = true := decide_eq_true c14
          clear c14
          replace H := Option.bind_eq_some_iff.mp H
          obtain ⟨⟨t316,t317⟩,A150,H⟩ := H
          replace H : ((nat_Pow.f k2 10 (ji12)).bind fun bt318 => ((nat_Mul.f k2 x4_2 bt318.1).bind fun bt322 => (if bt322.2 = 0 then ((nat_Of.f k2 (IntKind.u64.wrap (t316))).bind fun t326 => ((nat_Add.f k2 bt322.1 t326).bind fun bt329 => (if bt329.2 = 0 then (nat_Parse.l0 k2 (x0_2.extract ((ji12) : Int).toNat x0_2.size) bt329.1) else (some (([] : List Int),bt329.2))))) else (some (([] : List Int),bt322.2))))) = some (r1,r2) := H
          have A15 := Aside0.mk A150
          clear A150
          replace H := Option.bind_eq_some_iff.mp H
          obtain ⟨⟨t318,t319⟩,A160,H⟩ := H
          replace H : ((nat_Mul.f k2 x4_2 t318).bind fun bt322 => (if bt322.2 = 0 then ((nat_Of.f k2 (IntKind.u64.wrap (t316))).bind fun t326 => ((nat_Add.f k2 bt322.1 t326).bind fun bt329 => (if bt329.2 = 0 then (nat_Parse.l0 k2 (x0_2.extract ((ji12) : Int).toNat x0_2.size) bt329.1) else (some (([] : List Int),bt329.2))))) else (some (([] : List Int),bt322.2)))) = some (r1,r2) := H
          have A16 := Aside0.mk A160
          clear A160
          replace H := Option.bind_eq_some_iff.mp H
          obtain ⟨⟨t322,t325⟩,A170,H⟩ := H
          replace H : (if t325 = 0 then ((nat_Of.f k2 (IntKind.u64.wrap (t316))).bind fun t326 => ((nat_Add.f k2 t322 t326).bind fun bt329 => (if bt329.2 = 0 then (nat_Parse.l0 k2 (x0_2.extract ((ji12) : Int).toNat x0_2.size) bt329.1) else (some (([] : List Int),bt329.2))))) else (some (([] : List Int),t325))) = some (r1,r2) := H
          have A17 := Aside0.mk A170
          clear A170
          by_cases c18 : t325 = 0
          ·rw [if_pos c18] at H
           have c18b0 : (t325 == 0) = true := beq_iff_eq.mpr c18
           have c18b1 : (t325 != 0) = false := bne_eq_false_iff_eq.mpr c18
           clear c18
           replace H := Option.bind_eq_some_iff.mp H
           obtain ⟨t326,A190,H⟩ := H
           replace H : ((nat_Add.f k2 t322 t326).bind fun bt329 => (if bt329.2 = 0 then (nat_Parse.l0 k2 (x0_2.extract ((ji12) : Int).toNat x0_2.size) bt329.1) else (some (([] : List Int),bt329.2)))) = some (r1,r2) := H
           have A19 := Aside0.mk A190
           clear A190
           replace H := Option.bind_eq_some_iff.mp H
           obtain ⟨⟨t329,t332⟩,A200,H⟩ := H
           replace H : (if t332 = 0 then (nat_Parse.l0 k2 (x0_2.extract ((ji12) : Int).toNat x0_2.size) t329) else (some (([] : List Int),t332))) = some (r1,r2) := H
           have A20 := Aside0.mk A200
           clear A200
           by_cases c21 : t332 = 0
           ·rw [if_pos c21] at H
            have c21b0 : (t332 == 0) = true := beq_iff_eq.mpr c21
            have c21b1 : (t332 != 0) = false := bne_eq_false_iff_eq.mpr c21
            clear c21
            have c22b0 := eq_true (od_ : 0 ≤ (ji12))
            have c23b0 := eq_true (od_ : (ji12) ≤ (x0_2.size : Int))
            have H' := Aside0.mk H
            clear H
            go_wp2_with (first | ((with_reducible refine gate_callee (f := 38) rfl ?_);refine goesL_ (some 33) rfl rfl Tryd.func38 (by kernel_rfl) rfl #[.string (x0_2.extract 0 ((ji12) : Int).toNat)] rfl (by (try simp only [List.map_toArray,List.map_cons,List.map_nil]);first | done | (simp only [hji12];rfl) | rfl | (simp only [List.length_drop,List.length_take];rfl)) ?_;(with_reducible refine (strconv_Atoi.calls (x0_2.extract 0 ((ji12) : Int).toNat) t316 t317 _ A15.out).mono ?_);rintro e w24 ⟨rfl,hb⟩;refine ⟨_,rfl,?_⟩;replace HO_4 := Aside0.mk (Kd.R_below (ra_ HO_4.out) hb);replace HB := Aside0.mk (below_step bl_ hb);(try clear hb);(try clear hb2);(try clear hk);(try clear hi);(try simp only [errW_none,errW_some])) | ((with_reducible refine gate_callee (f := 16) rfl ?_);refine goesL_ (some 38) rfl rfl Tryd.func16 (by kernel_rfl) rfl #[.int .i64 10,.int .i64 ji12] rfl (by (try simp only [List.map_toArray,List.map_cons,List.map_nil]);first | done | (simp only [hji12];rfl) | rfl | (simp only [List.length_drop,List.length_take];rfl)) ?_;(with_reducible refine (nat_Pow.calls k2 10 ji12 t318 t319 _ A16.out).mono ?_);rintro e w25 ⟨v320,rfl,ho0,hb⟩;refine ⟨_,rfl,?_⟩;have HO321 := Aside0.mk (Kd.R_lower (Kd.R_new' ho0 (Kd.R_lt (ra_ HO_4.out))) (below_size bl_));replace HO_4 := Aside0.mk (Kd.R_elder' (ra_ HO_4.out) (Kd.R_base ho0) hb);replace HB := Aside0.mk (below_step bl_ hb);(try clear hb);(try clear hb2);(try clear hk);(try clear hi);(try clear ho0);obtain ⟨Ao26,co26,eo26⟩ := Kd.R_slice HO_4.out;subst eo26;obtain ⟨Ao27,co27,eo27⟩ := Kd.R_slice HO321.out;subst eo27) | ((with_reducible refine gate_callee (f := 12) rfl ?_);refine goesL_ (some 44) rfl rfl Tryd.func12 (by kernel_rfl) rfl #[.slice Ao26 x4_2.length co26,.slice Ao27 t318.length co27] rfl am_ ?_;(with_reducible refine (nat_Mul.calls k2 (fun k_ => some k_ = (.slice Ao26 x4_2.length co26 : Value).ownBlock) _ _ x4_2 (fun k_ => some k_ = (.slice Ao27 t318.length co27 : Value).ownBlock) _ _ t318 t322 t325 _ ?side1 ?side2 A17.out).mono ?_);(case side1 => exact Kd.R_V (Kd.R_tight rfl (HO_4.out)));(case side2 => exact Kd.R_V (Kd.R_tight rfl (HO321.out)));rintro e w28 ⟨v323,rfl,ho0,hb⟩;refine ⟨_,rfl,?_⟩;have HO324 := Aside0.mk (Kd.R_lower (Kd.R_new' (Kd.R_new' (Kd.R_mono (ok' := fun k_ => True) ho0 (fun _ hk_ => trivial)) (Kd.R_lt (ra_ HO_4.out))) (Kd.R_lt (ra_ HO321.out))) (below_size bl_));replace HO_4 := Aside0.mk (Kd.R_elder' (ra_ HO_4.out) (Kd.R_base ho0) hb);replace HO321 := Aside0.mk (Kd.R_elder' (ra_ HO321.out) (Kd.R_base ho0) hb);replace HB := Aside0.mk (below_step bl_ hb);(try clear hb);(try clear hb2);(try clear hk);(try clear hi);(try clear ho0)) | ((with_reducible refine gate_callee (f := 22) rfl ?_);refine goesL_ (some 53) rfl rfl Tryd.func22 (by kernel_rfl) rfl #[.int .u64 (IntKind.u64.wrap (t316))] rfl am_ ?_;(with_reducible refine (nat_Of.calls k2 (IntKind.u64.wrap (t316)) t326 _ A19.out).mono ?_);rintro e w29 ⟨v327,rfl,ho0,hb⟩;refine ⟨_,rfl,?_⟩;have HO328 := Aside0.mk (Kd.R_lower (Kd.R_new' (Kd.R_new' (Kd.R_new' ho0 (Kd.R_lt (ra_ HO_4.out))) (Kd.R_lt (ra_ HO321.out))) (Kd.R_lt (ra_ HO324.out))) (below_size bl_));replace HO_4 := Aside0.mk (Kd.R_elder' (ra_ HO_4.out) (Kd.R_base ho0) hb);replace HO321 := Aside0.mk (Kd.R_elder' (ra_ HO321.out) (Kd.R_base ho0) hb);replace HO324 := Aside0.mk (Kd.R_elder' (ra_ HO324.out) (Kd.R_base ho0) hb);replace HB := Aside0.mk (below_step bl_ hb);(try clear hb);(try clear hb2);(try clear hk);(try clear hi);(try clear ho0);obtain ⟨Ao30,co30,eo30⟩ := Kd.R_slice HO324.out;subst eo30;obtain ⟨Ao31,co31,eo31⟩ := Kd.R_slice HO328.out;subst eo31) | ((with_reducible refine gate_callee (f := 8) rfl ?_);refine goesL_ (some 54) rfl rfl Tryd.func8 (by kernel_rfl) rfl #[.slice Ao30 t322.length co30,.slice Ao31 t326.length co31] rfl am_ ?_;(with_reducible refine (nat_Add.calls k2 (fun k_ => some k_ = (.slice Ao30 t322.length co30 : Value).ownBlock) _ _ t322 (fun k_ => some k_ = (.slice Ao31 t326.length co31 : Value).ownBlock) _ _ t326 t329 t332 _ ?side1 ?side2 A20.out).mono ?_);(case side1 => exact Kd.R_V (Kd.R_tight rfl (HO324.out)));(case side2 => exact Kd.R_V (Kd.R_tight rfl (HO328.out)));rintro e w32 ⟨v330,rfl,ho0,hb⟩;refine ⟨_,rfl,?_⟩;have HO331 := Aside0.mk (Kd.R_lower (Kd.R_new' (Kd.R_new' (Kd.R_new' (Kd.R_new' (Kd.R_mono (ok' := fun k_ => True) ho0 (fun _ hk_ => trivial)) (Kd.R_lt (ra_ HO_4.out))) (Kd.R_lt (ra_ HO321.out))) (Kd.R_lt (ra_ HO324.out))) (Kd.R_lt (ra_ HO328.out))) (below_size bl_));replace HO_4 := Aside0.mk (Kd.R_elder' (ra_ HO_4.out) (Kd.R_base ho0) hb);replace HO321 := Aside0.mk (Kd.R_elder' (ra_ HO321.out) (Kd.R_base ho0) hb);replace HO324 := Aside0.mk (Kd.R_elder' (ra_ HO324.out) (Kd.R_base ho0) hb);replace HO328 := Aside0.mk (Kd.R_elder' (ra_ HO328.out) (Kd.R_base ho0) hb);replace HB := Aside0.mk (below_step bl_ hb);(try clear hb);(try clear hb2);(try clear hk);(try clear hi);(try clear ho0)))
            (first | go_roundg k2 | (simp only [← hji12];go_roundg k2))
            case measure => have := HJ1.out;have := HK2.out;omega
            case rel => exact ⟨(x0_2.extract ((ji12) : Int).toNat x0_2.size),(t329),(by first | rfl | (simp;done) | (simp only [← hji12] <;> (first | rfl | simp)) | (simp [*];done)),(by first | exact H' | (rw [hji12];exact H')),⟨by have := HJ1.out;have := HK2.out;omega⟩,⟨by (with_reducible repeat (first | apply Kd.R_alloc | apply Kd.R_drewN | apply Kd.R_drew));exact Kd.R_mono HO331.out (fun _ hk => trivial)⟩,⟨by repeat (first | (with_reducible first | exact HB.out | apply below_alloc | apply pw_below_drewN | apply below_drew1) | exact HB.out)⟩⟩
           ·rw [if_neg c21] at H
            have c21b0 : (t332 == 0) = false := beq_eq_false_iff_ne.mpr c21
            have c21b1 : (t332 != 0) = true := bne_iff_ne.mpr c21
            simp only [Option.some.injEq,Prod.mk.injEq] at H
            obtain ⟨rfl,rfl⟩ := H
            go_wp2_with (first | ((with_reducible refine gate_callee (f := 38) rfl ?_);refine goesL_ (some 33) rfl rfl Tryd.func38 (by kernel_rfl) rfl #[.string (x0_2.extract 0 ((ji12) : Int).toNat)] rfl (by (try simp only [List.map_toArray,List.map_cons,List.map_nil]);first | done | (simp only [hji12];rfl) | rfl | (simp only [List.length_drop,List.length_take];rfl)) ?_;(with_reducible refine (strconv_Atoi.calls (x0_2.extract 0 ((ji12) : Int).toNat) t316 t317 _ A15.out).mono ?_);rintro e w33 ⟨rfl,hb⟩;refine ⟨_,rfl,?_⟩;replace HO_4 := Aside0.mk (Kd.R_below (ra_ HO_4.out) hb);replace HB := Aside0.mk (below_step bl_ hb);(try clear hb);(try clear hb2);(try clear hk);(try clear hi);(try simp only [errW_none,errW_some])) | ((with_reducible refine gate_callee (f := 16) rfl ?_);refine goesL_ (some 38) rfl rfl Tryd.func16 (by kernel_rfl) rfl #[.int .i64 10,.int .i64 ji12] rfl (by (try simp only [List.map_toArray,List.map_cons,List.map_nil]);first | done | (simp only [hji12];rfl) | rfl | (simp only [List.length_drop,List.length_take];rfl)) ?_;(with_reducible refine (nat_Pow.calls k2 10 ji12 t318 t319 _ A16.out).mono ?_);rintro e w34 ⟨v320,rfl,ho0,hb⟩;refine ⟨_,rfl,?_⟩;have HO321 := Aside0.mk (Kd.R_lower (Kd.R_new' ho0 (Kd.R_lt (ra_ HO_4.out))) (below_size bl_));replace HO_4 := Aside0.mk (Kd.R_elder' (ra_ HO_4.out) (Kd.R_base ho0) hb);replace HB := Aside0.mk (below_step bl_ hb);(try clear hb);(try clear hb2);(try clear hk);(try clear hi);(try clear ho0);obtain ⟨Ao35,co35,eo35⟩ := Kd.R_slice HO_4.out;subst eo35;obtain ⟨Ao36,co36,eo36⟩ := Kd.R_slice HO321.out;subst eo36) | ((with_reducible refine gate_callee (f := 12) rfl ?_);refine goesL_ (some 44) rfl rfl Tryd.func12 (by kernel_rfl) rfl #[.slice Ao35 x4_2.length co35,.slice Ao36 t318.length co36] rfl am_ ?_;(with_reducible refine (nat_Mul.calls k2 (fun k_ => some k_ = (.slice Ao35 x4_2.length co35 : Value).ownBlock) _ _ x4_2 (fun k_ => some k_ = (.slice Ao36 t318.length co36 : Value).ownBlock) _ _ t318 t322 t325 _ ?side1 ?side2 A17.out).mono ?_);(case side1 => exact Kd.R_V (Kd.R_tight rfl (HO_4.out)));(case side2 => exact Kd.R_V (Kd.R_tight rfl (HO321.out)));rintro e w37 ⟨v323,rfl,ho0,hb⟩;refine ⟨_,rfl,?_⟩;have HO324 := Aside0.mk (Kd.R_lower (Kd.R_new' (Kd.R_new' (Kd.R_mono (ok' := fun k_ => True) ho0 (fun _ hk_ => trivial)) (Kd.R_lt (ra_ HO_4.out))) (Kd.R_lt (ra_ HO321.out))) (below_size bl_));replace HO_4 := Aside0.mk (Kd.R_elder' (ra_ HO_4.out) (Kd.R_base ho0) hb);replace HO321 := Aside0.mk (Kd.R_elder' (ra_ HO321.out) (Kd.R_base ho0) hb);replace HB := Aside0.mk (below_step bl_ hb);(try clear hb);(try clear hb2);(try clear hk);(try clear hi);(try clear ho0)) | ((with_reducible refine gate_callee (f := 22) rfl ?_);refine goesL_ (some 53) rfl rfl Tryd.func22 (by kernel_rfl) rfl #[.int .u64 (IntKind.u64.wrap (t316))] rfl am_ ?_;(with_reducible refine (nat_Of.calls k2 (IntKind.u64.wrap (t316)) t326 _ A19.out).mono ?_);rintro e w38 ⟨v327,rfl,ho0,hb⟩;refine ⟨_,rfl,?_⟩;have HO328 := Aside0.mk (Kd.R_lower (Kd.R_new' (Kd.R_new' (Kd.R_new' ho0 (Kd.R_lt (ra_ HO_4.out))) (Kd.R_lt (ra_ HO321.out))) (Kd.R_lt (ra_ HO324.out))) (below_size bl_));replace HO_4 := Aside0.mk (Kd.R_elder' (ra_ HO_4.out) (Kd.R_base ho0) hb);replace HO321 := Aside0.mk (Kd.R_elder' (ra_ HO321.out) (Kd.R_base ho0) hb);replace HO324 := Aside0.mk (Kd.R_elder' (ra_ HO324.out) (Kd.R_base ho0) hb);replace HB := Aside0.mk (below_step bl_ hb);(try clear hb);(try clear hb2);(try clear hk);(try clear hi);(try clear ho0);obtain ⟨Ao39,co39,eo39⟩ := Kd.R_slice HO324.out;subst eo39;obtain ⟨Ao40,co40,eo40⟩ := Kd.R_slice HO328.out;subst eo40) | ((with_reducible refine gate_callee (f := 8) rfl ?_);refine goesL_ (some 54) rfl rfl Tryd.func8 (by kernel_rfl) rfl #[.slice Ao39 t322.length co39,.slice Ao40 t326.length co40] rfl am_ ?_;(with_reducible refine (nat_Add.calls k2 (fun k_ => some k_ = (.slice Ao39 t322.length co39 : Value).ownBlock) _ _ t322 (fun k_ => some k_ = (.slice Ao40 t326.length co40 : Value).ownBlock) _ _ t326 t329 t332 _ ?side1 ?side2 A20.out).mono ?_);(case side1 => exact Kd.R_V (Kd.R_tight rfl (HO324.out)));(case side2 => exact Kd.R_V (Kd.R_tight rfl (HO328.out)));rintro e w41 ⟨v330,rfl,ho0,hb⟩;refine ⟨_,rfl,?_⟩;have HO331 := Aside0.mk (Kd.R_lower (Kd.R_new' (Kd.R_new' (Kd.R_new' (Kd.R_new' (Kd.R_mono (ok' := fun k_ => True) ho0 (fun _ hk_ => trivial)) (Kd.R_lt (ra_ HO_4.out))) (Kd.R_lt (ra_ HO321.out))) (Kd.R_lt (ra_ HO324.out))) (Kd.R_lt (ra_ HO328.out))) (below_size bl_));replace HO_4 := Aside0.mk (Kd.R_elder' (ra_ HO_4.out) (Kd.R_base ho0) hb);replace HO321 := Aside0.mk (Kd.R_elder' (ra_ HO321.out) (Kd.R_base ho0) hb);replace HO324 := Aside0.mk (Kd.R_elder' (ra_ HO324.out) (Kd.R_base ho0) hb);replace HO328 := Aside0.mk (Kd.R_elder' (ra_ HO328.out) (Kd.R_base ho0) hb);replace HB := Aside0.mk (below_step bl_ hb);(try clear hb);(try clear hb2);(try clear hk);(try clear hi);(try clear ho0)))
            go_ret2
            exact ⟨_,by first | rfl | (simp [errW_none,errW_some] <;> rfl) | (simp only [← hji12];first | rfl | (simp [errW_none,errW_some] <;> rfl)) | (simp [*,errW_none,errW_some] <;> rfl),by first | exact Kd.R_nil _ _ _ _ _ | exact Kd.N_nil _ _ _ _ _ | exact Kd.V_nil _ _ _ _ _ | exact Kd.Q_nil _ _ _ _ _ | exact Kd.S_nil _ _ _ _ _,by repeat (first | (with_reducible first | exact HB.out | apply below_alloc | apply pw_below_drewN | apply below_drew1) | exact HB.out)⟩
          ·rw [if_neg c18] at H
           have c18b0 : (t325 == 0) = false := beq_eq_false_iff_ne.mpr c18
           have c18b1 : (t325 != 0) = true := bne_iff_ne.mpr c18
           simp only [Option.some.injEq,Prod.mk.injEq] at H
           obtain ⟨rfl,rfl⟩ := H
           go_wp2_with (first | ((with_reducible refine gate_callee (f := 38) rfl ?_);refine goesL_ (some 33) rfl rfl Tryd.func38 (by kernel_rfl) rfl #[.string (x0_2.extract 0 ((ji12) : Int).toNat)] rfl (by (try simp only [List.map_toArray,List.map_cons,List.map_nil]);first | done | (simp only [hji12];rfl) | rfl | (simp only [List.length_drop,List.length_take];rfl)) ?_;(with_reducible refine (strconv_Atoi.calls (x0_2.extract 0 ((ji12) : Int).toNat) t316 t317 _ A15.out).mono ?_);rintro e w42 ⟨rfl,hb⟩;refine ⟨_,rfl,?_⟩;replace HO_4 := Aside0.mk (Kd.R_below (ra_ HO_4.out) hb);replace HB := Aside0.mk (below_step bl_ hb);(try clear hb);(try clear hb2);(try clear hk);(try clear hi);(try simp only [errW_none,errW_some])) | ((with_reducible refine gate_callee (f := 16) rfl ?_);refine goesL_ (some 38) rfl rfl Tryd.func16 (by kernel_rfl) rfl #[.int .i64 10,.int .i64 ji12] rfl (by (try simp only [List.map_toArray,List.map_cons,List.map_nil]);first | done | (simp only [hji12];rfl) | rfl | (simp only [List.length_drop,List.length_take];rfl)) ?_;(with_reducible refine (nat_Pow.calls k2 10 ji12 t318 t319 _ A16.out).mono ?_);rintro e w43 ⟨v320,rfl,ho0,hb⟩;refine ⟨_,rfl,?_⟩;have HO321 := Aside0.mk (Kd.R_lower (Kd.R_new' ho0 (Kd.R_lt (ra_ HO_4.out))) (below_size bl_));replace HO_4 := Aside0.mk (Kd.R_elder' (ra_ HO_4.out) (Kd.R_base ho0) hb);replace HB := Aside0.mk (below_step bl_ hb);(try clear hb);(try clear hb2);(try clear hk);(try clear hi);(try clear ho0);obtain ⟨Ao44,co44,eo44⟩ := Kd.R_slice HO_4.out;subst eo44;obtain ⟨Ao45,co45,eo45⟩ := Kd.R_slice HO321.out;subst eo45) | ((with_reducible refine gate_callee (f := 12) rfl ?_);refine goesL_ (some 44) rfl rfl Tryd.func12 (by kernel_rfl) rfl #[.slice Ao44 x4_2.length co44,.slice Ao45 t318.length co45] rfl am_ ?_;(with_reducible refine (nat_Mul.calls k2 (fun k_ => some k_ = (.slice Ao44 x4_2.length co44 : Value).ownBlock) _ _ x4_2 (fun k_ => some k_ = (.slice Ao45 t318.length co45 : Value).ownBlock) _ _ t318 t322 t325 _ ?side1 ?side2 A17.out).mono ?_);(case side1 => exact Kd.R_V (Kd.R_tight rfl (HO_4.out)));(case side2 => exact Kd.R_V (Kd.R_tight rfl (HO321.out)));rintro e w46 ⟨v323,rfl,ho0,hb⟩;refine ⟨_,rfl,?_⟩;have HO324 := Aside0.mk (Kd.R_lower (Kd.R_new' (Kd.R_new' (Kd.R_mono (ok' := fun k_ => True) ho0 (fun _ hk_ => trivial)) (Kd.R_lt (ra_ HO_4.out))) (Kd.R_lt (ra_ HO321.out))) (below_size bl_));replace HO_4 := Aside0.mk (Kd.R_elder' (ra_ HO_4.out) (Kd.R_base ho0) hb);replace HO321 := Aside0.mk (Kd.R_elder' (ra_ HO321.out) (Kd.R_base ho0) hb);replace HB := Aside0.mk (below_step bl_ hb);(try clear hb);(try clear hb2);(try clear hk);(try clear hi);(try clear ho0)))
           go_ret2
           exact ⟨_,by first | rfl | (simp [errW_none,errW_some] <;> rfl) | (simp only [← hji12];first | rfl | (simp [errW_none,errW_some] <;> rfl)) | (simp [*,errW_none,errW_some] <;> rfl),by first | exact Kd.R_nil _ _ _ _ _ | exact Kd.N_nil _ _ _ _ _ | exact Kd.V_nil _ _ _ _ _ | exact Kd.Q_nil _ _ _ _ _ | exact Kd.S_nil _ _ _ _ _,by repeat (first | (with_reducible first | exact HB.out | apply below_alloc | apply pw_below_drewN | apply below_drew1) | exact HB.out)⟩
         ·rw [if_neg c14] at H
          exact absurd H (by simp)
        ·rw [if_neg c13] at H
         exact absurd H (by simp)
       ·rw [if_neg c11] at H
        have c11b0 : decide (0 < (x0_2.size : Int)) = false := decide_eq_false c11
        have c11b1 : decide (0 < x0_2.size) = false := decide_eq_false (by omega)
        clear c11
        simp only [Option.some.injEq,Prod.mk.injEq] at H
        obtain ⟨rfl,rfl⟩ := H
        go_wp2
        go_ret2
        exact ⟨_,by first | rfl | (simp [errW_none,errW_some] <;> rfl) | (simp [*,errW_none,errW_some] <;> rfl),by (with_reducible repeat (first | apply Kd.R_alloc | apply Kd.R_drewN | apply Kd.R_drew));exact HO_4.out,by repeat (first | (with_reducible first | exact HB.out | apply below_alloc | apply pw_below_drewN | apply below_drew1) | exact HB.out)⟩

end Go.Proofs.YtfcenlhaepckoaaDoor.P
