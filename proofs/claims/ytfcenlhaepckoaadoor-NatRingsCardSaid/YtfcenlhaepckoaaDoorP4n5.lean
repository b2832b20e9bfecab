-- Printed by a program of this session (wip/tools) over the kit's print: not trusted, Lean checks it.
import Derived.Test.YtfcenlhaepckoaaDoorP0n5
import Derived.Test.YtfcenlhaepckoaaDoorProg
import Derived.Test.YtfcenlhaepckoaaDoorElibn5
import Derived.Test.YtfcenlhaepckoaaDoorSqn5
import Derived.Test.YtfcenlhaepckoaaDoorLibsn5
namespace Go.Proofs.YtfcenlhaepckoaaDoor.P
set_option linter.all false
open Go.RowKit Go.Proofs.YtfcenlhaepckoaaDoorW.PrintWords Go.Proofs.YtfcenlhaepckoaaDoorW.PrintLast Go.Proofs.YtfcenlhaepckoaaDoorW.PrintMore
attribute [local go_sem] max2_int min2_int max_two min_two max_three min_three max_four min_four   -- for this text's walks alone
attribute [local go_sem] cell_after
set_option linter.unusedVariables false
set_option linter.unusedSimpArgs false

/-! ### nat_short: function 30 -/
def nat_short.l0 : Nat → List Int → Int → Int → Int → Int → Option (Int × List Int)
 | 0,_,_,_,_,_ => none
 | k + 1,x0,x1,x5,x10,x11 => if x11 < x10 then (if 0 ≤ (wrap64 ((wrap64 ((x0.length : Int) - 1)) - x11)) then (if (wrap64 ((wrap64 ((x0.length : Int) - 1)) - x11)) < (x0.length : Int) then (if (IntKind.u64.wrap (x1)) = 0 then (none) else (nat_short.l0 k (x0.set ((wrap64 ((wrap64 ((x0.length : Int) - 1)) - x11)) : Int).toNat ((IntKind.u64.wrap (Int.tdiv (Go.bits .or .u64 (IntKind.u64.wrap (x5 * 4294967296)) (IntKind.u64.wrap (rd x0 (wrap64 ((wrap64 ((x0.length : Int) - 1)) - x11))))) (IntKind.u64.wrap (x1)))) % 4294967296)) x1 (Int.tmod (Go.bits .or .u64 (IntKind.u64.wrap (x5 * 4294967296)) (IntKind.u64.wrap (rd x0 (wrap64 ((wrap64 ((x0.length : Int) - 1)) - x11))))) (IntKind.u64.wrap (x1))) x10 (wrap64 (x11 + 1)))) else (none)) else (none)) else (some ((x5) % 4294967296,x0))
def nat_short.f (k : Nat) (l0 : List Int) (a1 : Int) : Option (Int × List Int) := nat_short.l0 k l0 a1 0 (l0.length : Int) 0
def nat_short.T7 : Bool × List (List Nat × List Nat) := (true,[([],[]),([],[]),([],[]),([],[]),([3],[3]),([2,4],[2,4]),([5],[5]),([],[]),([],[]),([8],[8]),([7,9],[7,9]),([0,1,0,1,2,3,4,5,6],[0,1]),([11,6,0,1,2,3,4,5,6],[6,11]),([10,12,0,1,2,3,4,5,6,7,8,9,10,11,12],[10])])
def nat_short.B7 : List Nat := [0,0,0,0,8,28,60,0,0,256,896,127,2175,8191]
theorem nat_short.tab7 : rtab .any (opsOf Tryd.f30 7) = nat_short.T7 := by kernel_rfl
theorem nat_short.bits7 : waitsOk nat_short.T7.2 nat_short.B7 = true := by kernel_rfl
set_option maxHeartbeats 8000000 in
set_option maxRecDepth 100000 in
theorem nat_short.calls (k : Nat) (P0_ : Nat → Prop) (u9000_ : Value) (l0 : List Int) (a1 : Int) (r1 : Int) (r2 : List Int) (w0 w : World) (hB : Below w0.heap.size w0 w) (ho0 : Kd.R (Kd.int .u32) 43 w w0.heap.size P0_ u9000_ l0) (h : nat_short.f k l0 a1 = some (r1,r2)) :
  Calls Tryd.prog 30 #[u9000_,.int .u32 a1] w fun e w' => e = .returned (.int .u32 r1) ∧ Kd.R (Kd.int .u32) 43 w' w0.heap.size (fun k_ => (P0_ k_ ∨ w.heap.size ≤ k_)) u9000_ r2 ∧ Below w0.heap.size w0 w' ∧ Kept w w' (fun k_ => P0_ k_) := by
 have HO0 := Aside0.mk (show Kd.R (Kd.int .u32) 43 w w0.heap.size (fun k_ => (P0_ k_ ∨ w.heap.size ≤ k_)) u9000_ l0 from Kd.R_mono ho0 (fun k_ hk => (.inl hk)))
 have HK := Aside0.mk (Kept.refl w (fun k_ => P0_ k_))
 have HW0 := Aside0.mk hB.size
 have HB := Aside0.mk hB
 clear hB
 have H : (nat_short.l0 k l0 a1 0 (l0.length : Int) 0) = some (r1,r2) := h
 clear h
 have H' := Aside0.mk H
 clear H
 obtain ⟨Ao3,co3,eo3⟩ := Kd.R_slice HO0.out
 subst eo3
 go_enter Tryd.func30,Tryd.ntmps30
 go_wp2
 go_loopg [5,11] k (fun kq v5 v11 w' => ∃ (x0_1 : List Int) (x5_1 : Int) (x11_1 : Int),v5 = .int .u64 x5_1 ∧ v11 = .int .i64 x11_1 ∧ Aside0 (nat_short.l0 kq x0_1 a1 x5_1 (l0.length : Int) x11_1 = some (r1,r2)) ∧ Aside0 (kq ≤ k) ∧ Aside0 (Kd.R (Kd.int .u32) 43 w' w0.heap.size (fun k_ => (P0_ k_ ∨ w.heap.size ≤ k_)) (.slice Ao3 l0.length co3) x0_1) ∧ Aside0 (Kept w w' (fun k_ => P0_ k_)) ∧ Aside0 (Below w0.heap.size w0 w'))
 case atStart => exact ⟨(l0),(0),(0),(by first | rfl | (simp;done) | (simp [*];done)),(by first | rfl | (simp;done) | (simp [*];done)),H',⟨Nat.le_refl _⟩,⟨by (with_reducible repeat (first | apply Kd.R_alloc | apply Kd.R_drewN | apply Kd.R_drew));exact HO0.out⟩,⟨by repeat (first | (with_reducible first | exact HK.out | apply Kept.alloc | apply Kept.drewN | apply Kept.drew) | exact HK.out)⟩,⟨by repeat (first | (with_reducible first | exact HB.out | apply below_alloc | apply pw_below_drewN | apply below_drew1) | exact HB.out)⟩⟩
 case round =>
  clear H'
  try clear p2
  try clear c3
  obtain ⟨x0_1,x5_1,x11_1,rfl,rfl,HA,HK1,HO_0,HK,HB⟩ := hrel
  have hl0_1 := (Kd.R_reads' HO_0.out).1
  rw [hl0_1] at HO_0
  (try simp only [hl0_1])
  cases gk with
  | zero => exact absurd HA.out (by simp [nat_short.l0])
  | succ k1 =>
   have H := HA.out
   clear HA
   simp only [nat_short.l0] at H
   by_cases c4 : x11_1 < (l0.length : Int)
   ·rw [if_pos c4] at H
    have c4b0 : decide (x11_1 < (l0.length : Int)) = true := decide_eq_true c4
    have c4b0h := c4b0
    (try simp only [hl0_1] at c4b0h)
    clear c4
    obtain ⟨ji5,hji5⟩ : ∃ j_ : Int,(wrap64 ((wrap64 ((x0_1.length : Int) - 1)) - x11_1)) = j_ := ⟨_,rfl⟩
    replace H : (if 0 ≤ (ji5) then (if (ji5) < (x0_1.length : Int) then (if (IntKind.u64.wrap (a1)) = 0 then (none) else (nat_short.l0 k1 (x0_1.set ((ji5) : Int).toNat ((IntKind.u64.wrap (Int.tdiv (Go.bits .or .u64 (IntKind.u64.wrap (x5_1 * 4294967296)) (IntKind.u64.wrap (rd x0_1 (ji5)))) (IntKind.u64.wrap (a1)))) % 4294967296)) a1 (Int.tmod (Go.bits .or .u64 (IntKind.u64.wrap (x5_1 * 4294967296)) (IntKind.u64.wrap (rd x0_1 (ji5)))) (IntKind.u64.wrap (a1))) (l0.length : Int) (wrap64 (x11_1 + 1)))) else (none)) else (none)) = some (r1,r2) := by first | (rw [hji5] at H;exact H) | (simp only [hji5] at H ⊢;exact H)
    have hji5w : (IntKind.i64.wrap ((wrap64 ((x0_1.length : Int) - 1)) - x11_1)) = ji5 := (i64_w _).trans hji5
    by_cases c6 : 0 ≤ (ji5)
    ·rw [if_pos c6] at H
     have c6b0 : decide (0 ≤ (ji5)) = true := decide_eq_true c6
     clear c6
     by_cases c7 : (ji5) < (x0_1.length : Int)
     ·rw [if_pos c7] at H
      have c7b0 : decide ((ji5) < (x0_1.length : Int)) = true := decide_eq_true c7
      have c7b0h := c7b0
      (try simp only [hl0_1] at c7b0h)
      clear c7
      by_cases c8 : (IntKind.u64.wrap (a1)) = 0
      ·rw [if_pos c8] at H
       exact absurd H (by simp)
      ·rw [if_neg c8] at H
       have c8b0 : ((IntKind.u64.wrap (a1)) == 0) = false := beq_eq_false_iff_ne.mpr c8
       have c8b1 : ((IntKind.u64.wrap (a1)) != 0) = true := bne_iff_ne.mpr c8
       obtain ⟨y230,hy230⟩ : ∃ y_ : List Int,y_ = (x0_1.set ((ji5) : Int).toNat ((IntKind.u64.wrap (Int.tdiv (Go.bits .or .u64 (IntKind.u64.wrap (x5_1 * 4294967296)) (IntKind.u64.wrap (rd x0_1 (ji5)))) (IntKind.u64.wrap (a1)))) % 4294967296)) := ⟨_,rfl⟩
       replace H : (nat_short.l0 k1 y230 a1 (Int.tmod (Go.bits .or .u64 (IntKind.u64.wrap (x5_1 * 4294967296)) (IntKind.u64.wrap (rd x0_1 (ji5)))) (IntKind.u64.wrap (a1))) (l0.length : Int) (wrap64 (x11_1 + 1))) = some (r1,r2) := by first | (rw [hy230];with_reducible exact H) | (have H2_ := (Option.bind_some _ _).symm.trans H;rw [hy230];with_reducible exact H2_) | (have H2_ := (Option.bind_some _ _).symm.trans H;with_reducible exact H2_) | with_reducible exact H | (rw [hy230];exact H) | exact H
       have Ny230 := Aside0.mk hy230
       clear hy230
       have H' := Aside0.mk H
       clear H
       have p229 : 0 ≤ ((ji5) : Int) := od_
       have q229 : (ji5) < (x0_1.length : Int) := od_
       obtain ⟨ad229,e229,hx229_0⟩ := Kd.at_int (Kd.R_reads' HO_0.out).2.2 (ji5) p229 q229
       cases e229
       replace p229 := eq_true p229
       replace q229 := eq_true q229
       try go_wp2
       have n0_ := Aside0.mk (Kd.R_drew HO_0.out)
       have n1_ := Aside0.mk (Kept.drew HK.out)
       have n2_ := Aside0.mk (below_drew1 HB.out)
       clear HO_0
       clear HK
       clear HB
       have HO_0 := n0_
       have HK := n1_
       have HB := n2_
       clear n0_ n1_ n2_
       have p9 : 0 ≤ ((ji5) : Int) := od_
       have q9 : ((ji5) : Int) < ((x0_1.length : Int) : Int) := od_
       obtain ⟨go9,co9,eo9,gb9,gl9,cl9,HG9⟩ := Kd.R_form HO_0.out (by omega)
       (first | cases eo9 | (injection eo9 with ea_ en_ ec_;(first | subst ea_ | (injection ea_ with ea_;subst ea_));subst ec_;clear en_))
       have GB9 := Aside0.mk gb9
       have GG9 := Aside0.mk HG9
       clear gb9 gl9 HG9
       have HMgo9 := Aside0.mk (show (P0_ go9 ∨ w.heap.size ≤ go9) from (HO_0.out.1 _ rfl))
       (first | simp only [add_plain] at hx229_0 | skip)
       obtain ⟨hx9_0,hf9_0⟩ := Kd.R_celln 0 HO_0.out ((ji5) : Int) p9 q9
       replace p9 := eq_true p9
       replace q9 := eq_true q9
       have HP11 := Kd.R_putn HO_0.out ((ji5) : Int) ((IntKind.u64.wrap (Int.tdiv (Go.bits .or .u64 (IntKind.u64.wrap (x5_1 * 4294967296)) (IntKind.u64.wrap (rd x0_1 (ji5)))) (IntKind.u64.wrap (a1)))) % 4294967296)
       rw [← Ny230.out] at HP11
       have HQ11 := Aside0.mk HP11
       clear HP11
       refine start_ (n := 14) (S := fun w' => True) (ds := [12]) #[false,false,false,false,false,false,false,false,false,false,false,false,false,false] (by kernel_rfl) rfl rfl trivial (fun hHeld => ?_);refine with_tabW nat_short.tab7 nat_short.bits7 (fun HT_ HW_ => ?_)
       generalize wr.drew = w10 at HO_0 HK HB GG9 HQ11 hf9_0 hx229_0 hx9_0 hHeld ⊢
       refine pure_ (i := 0) (N := some 27) (v := ?_) (a' := ?_) #[true,false,false,false,false,false,false,false,false,false,false,false,false,false] rfl rfl (any_of HT_.out (by kernel_rfl)) (fun _ _ _ h => h) (Or.inl ⟨by rfl,?_⟩) ?_ ?_
       rotate_left
       ·intro w'
        go_simp
        with_reducible rfl
       rotate_left
       ·simp only [Act.put,List.setIfInBounds_toArray,List.set_cons_zero,List.set_cons_succ,i64_w,i32_w]
        rfl
       refine pure_ (i := 1) (N := some 28) (v := ?_) (a' := ?_) #[true,true,false,false,false,false,false,false,false,false,false,false,false,false] rfl rfl (any_of HT_.out (by kernel_rfl)) (fun _ _ _ h => h) (Or.inl ⟨by rfl,?_⟩) ?_ ?_
       rotate_left
       ·intro w'
        go_simp
        with_reducible rfl
       rotate_left
       ·simp only [Act.put,List.setIfInBounds_toArray,List.set_cons_zero,List.set_cons_succ,i64_w,i32_w]
        rfl
       refine pure_ (i := 2) (N := some 29) (v := ?_) (a' := ?_) #[true,true,true,false,false,false,false,false,false,false,false,false,false,false] rfl rfl (any_of HT_.out (by kernel_rfl)) (fun _ _ _ h => h) (Or.inl ⟨by rfl,?_⟩) ?_ ?_
       rotate_left
       ·intro w'
        go_simp
        with_reducible rfl
       rotate_left
       ·simp only [Act.put,List.setIfInBounds_toArray,List.set_cons_zero,List.set_cons_succ,i64_w,i32_w]
        rfl
       refine pure_ (i := 3) (N := some 30) (v := ?_) (a' := ?_) #[true,true,true,true,false,false,false,false,false,false,false,false,false,false] rfl rfl (any_of HT_.out (by kernel_rfl)) (fun _ _ _ h => h) (Or.inl ⟨by rfl,?_⟩) ?_ ?_
       rotate_left
       ·intro w'
        go_simp
        with_reducible rfl
       rotate_left
       ·simp only [Act.put,List.setIfInBounds_toArray,List.set_cons_zero,List.set_cons_succ,i64_w,i32_w]
        rfl
       refine pure_ (i := 4) (N := some 31) (v := ?_) (a' := ?_) #[true,true,true,true,true,false,false,false,false,false,false,false,false,false] rfl rfl (any_of HT_.out (by kernel_rfl)) (fun _ _ _ h => h) (Or.inl ⟨by rfl,?_⟩) ?_ ?_
       rotate_left
       ·intro w'
        go_simp
        with_reducible rfl
       rotate_left
       ·simp only [Act.put,List.setIfInBounds_toArray,List.set_cons_zero,List.set_cons_succ,i64_w,i32_w]
        rfl
       refine pure_ (i := 5) (N := some 32) (v := ?_) (a' := ?_) #[true,true,true,true,true,true,false,false,false,false,false,false,false,false] rfl rfl (any_of HT_.out (by kernel_rfl)) (fun _ _ _ h => h) (Or.inl ⟨by rfl,?_⟩) ?_ ?_
       rotate_left
       ·intro w'
        go_simp
        with_reducible rfl
       rotate_left
       ·simp only [Act.put,List.setIfInBounds_toArray,List.set_cons_zero,List.set_cons_succ,i64_w,i32_w]
        rfl
       refine pure_ (i := 6) (N := some 33) (v := ?_) (a' := ?_) #[true,true,true,true,true,true,true,false,false,false,false,false,false,false] rfl rfl (any_of HT_.out (by kernel_rfl)) (fun _ _ _ h => h) (Or.inl ⟨by rfl,?_⟩) ?_ ?_
       rotate_left
       ·intro w'
        go_simp
        with_reducible rfl
       rotate_left
       ·simp only [Act.put,List.setIfInBounds_toArray,List.set_cons_zero,List.set_cons_succ,i64_w,i32_w]
        rfl
       refine pure_ (i := 7) (N := some 34) (v := ?_) (a' := ?_) #[true,true,true,true,true,true,true,true,false,false,false,false,false,false] rfl rfl (any_of HT_.out (by kernel_rfl)) (fun _ _ _ h => h) (Or.inl ⟨by rfl,?_⟩) ?_ ?_
       rotate_left
       ·intro w'
        go_simp
        with_reducible rfl
       rotate_left
       ·simp only [Act.put,List.setIfInBounds_toArray,List.set_cons_zero,List.set_cons_succ,i64_w,i32_w]
        rfl
       refine pure_ (i := 8) (N := some 35) (v := ?_) (a' := ?_) #[true,true,true,true,true,true,true,true,true,false,false,false,false,false] rfl rfl (any_of HT_.out (by kernel_rfl)) (fun _ _ _ h => h) (Or.inl ⟨by rfl,?_⟩) ?_ ?_
       rotate_left
       ·intro w'
        go_simp
        with_reducible rfl
       rotate_left
       ·simp only [Act.put,List.setIfInBounds_toArray,List.set_cons_zero,List.set_cons_succ,i64_w,i32_w]
        rfl
       refine pure_ (i := 9) (N := some 36) (v := ?_) (a' := ?_) #[true,true,true,true,true,true,true,true,true,true,false,false,false,false] rfl rfl (any_of HT_.out (by kernel_rfl)) (fun _ _ _ h => h) (Or.inl ⟨by rfl,?_⟩) ?_ ?_
       rotate_left
       ·intro w'
        go_simp
        with_reducible rfl
       rotate_left
       ·simp only [Act.put,List.setIfInBounds_toArray,List.set_cons_zero,List.set_cons_succ,i64_w,i32_w]
        rfl
       refine pure_ (i := 10) (N := some 37) (v := ?_) (a' := ?_) #[true,true,true,true,true,true,true,true,true,true,true,false,false,false] rfl rfl (any_of HT_.out (by kernel_rfl)) (fun _ _ _ h => h) (Or.inl ⟨by rfl,?_⟩) ?_ ?_
       rotate_left
       ·intro w'
        go_simp
        with_reducible rfl
       rotate_left
       ·simp only [Act.put,List.setIfInBounds_toArray,List.set_cons_zero,List.set_cons_succ,i64_w,i32_w]
        rfl
       refine pure_ (i := 11) (N := some 38) (v := ?_) (a' := ?_) #[true,true,true,true,true,true,true,true,true,true,true,true,false,false] rfl rfl (any_of HT_.out (by kernel_rfl)) (fun _ _ _ h => h) (Or.inl ⟨by rfl,?_⟩) ?_ ?_
       rotate_left
       ·intro w'
        go_simp
        with_reducible rfl
       rotate_left
       ·simp only [Act.put,List.setIfInBounds_toArray,List.set_cons_zero,List.set_cons_succ,i64_w,i32_w]
        rfl
       refine last_ (i := 12) (N := none) #[true,true,true,true,true,true,true,true,true,true,true,true,true,false] rfl rfl (one_of HT_.out (by kernel_rfl)) (by decide) (fun K hK => ?_)
       refine skip_ (w1 := ?_) (by rfl) rfl ?_ ?_
       rotate_left
       ·go_simp
        rfl
       refine hK.out _ _ ?_
       clear hK K
       refine pure_ (i := 13) (N := some 5) (v := ?_) (a' := ?_) #[true,true,true,true,true,true,true,true,true,true,true,true,true,true] rfl rfl (any_of HT_.out (by kernel_rfl)) (fun _ _ _ h => h) (Or.inl ⟨by rfl,?_⟩) ?_ ?_
       rotate_left
       ·intro w'
        go_simp
        with_reducible rfl
       rotate_left
       ·simp only [Act.put,List.setIfInBounds_toArray,List.set_cons_zero,List.set_cons_succ,i64_w,i32_w]
        rfl
       refine done_ (done_of HT_.out (by kernel_rfl)) ?_
       try go_wp2
       (try simp only [← hl0_1])
       (first | go_roundg k1 | (simp only [← hji5];go_roundg k1))
       case measure => have := HK1.out;omega
       case rel => exact ⟨(y230),(Int.tmod (Go.bits .or .u64 (IntKind.u64.wrap (x5_1 * 4294967296)) (IntKind.u64.wrap (rd x0_1 (ji5)))) (IntKind.u64.wrap (a1))),(wrap64 (x11_1 + 1)),(by first | rfl | (simp;done) | (simp only [← hji5] <;> (first | rfl | simp)) | (simp [*];done)),(by first | rfl | (simp;done) | (simp [*];done)),(by first | exact H' | (rw [hji5];exact H')),⟨by have := HK1.out;omega⟩,⟨by (try simp only [hl0_1]);(with_reducible repeat (first | apply Kd.R_alloc | apply Kd.R_drewN | apply Kd.R_drew));exact HQ11.out⟩,⟨by repeat (first | (with_reducible first | exact HK.out | apply Kept.alloc | apply Kept.drewN | apply Kept.drew | refine Kept.setCell ?_ HMgo9.out _) | exact HK.out)⟩,⟨by repeat (first | (with_reducible first | exact HB.out | apply below_alloc | apply pw_below_drewN | apply below_drew1 | refine below_set ?_ GB9.out) | exact HB.out)⟩⟩
     ·rw [if_neg c7] at H
      exact absurd H (by simp)
    ·rw [if_neg c6] at H
     exact absurd H (by simp)
   ·rw [if_neg c4] at H
    have c4b0 : decide (x11_1 < (l0.length : Int)) = false := decide_eq_false c4
    have c4b0h := c4b0
    (try simp only [hl0_1] at c4b0h)
    clear c4
    simp only [Option.some.injEq,Prod.mk.injEq] at H
    obtain ⟨rfl,rfl⟩ := H
    go_wp2
    go_ret
    exact ⟨by first | rfl | (simp [errW_none,errW_some] <;> rfl) | (simp [*,errW_none,errW_some] <;> rfl),(by first | exact (ra_ HO_0.out) | (simp only [hl0_1];exact (ra_ HO_0.out))),by repeat (first | (with_reducible first | exact HB.out | apply below_alloc | apply pw_below_drewN | apply below_drew1) | exact HB.out),by repeat (first | (with_reducible first | exact HK.out | apply Kept.alloc | apply Kept.drewN | apply Kept.drew) | exact HK.out)⟩

/-! ### nat_shift: function 33 -/
def nat_shift.l0 : Nat → List Int → List Int → Int → Int → Int → Int → Option (List Int)
 | 0,_,_,_,_,_,_ => none
 | k + 1,x0,x1,x2,x6,x9,x10 => if x10 < x9 then (if x10 < (x1.length : Int) then (if 0 ≤ x10 then (if 0 ≤ x2 then (if x10 < (x0.length : Int) then (nat_shift.l0 k (x0.set (x10 : Int).toNat ((Go.bits .or .u64 x6 (shl .u64 (IntKind.u64.wrap (rd x1 x10)) x2)) % 4294967296)) x1 x2 ((Go.bits .or .u64 x6 (shl .u64 (IntKind.u64.wrap (rd x1 x10)) x2)) / 4294967296) x9 (wrap64 (x10 + 1))) else (none)) else (none)) else (none)) else (if 0 ≤ x10 then (if x10 < (x0.length : Int) then (nat_shift.l0 k (x0.set (x10 : Int).toNat ((x6) % 4294967296)) x1 x2 (x6 / 4294967296) x9 (wrap64 (x10 + 1))) else (none)) else (none))) else (some x0)
def nat_shift.f (k : Nat) (l0 : List Int) (l1 : List Int) (a2 : Int) : Option (List Int) := nat_shift.l0 k l0 l1 a2 0 (l0.length : Int) 0
end Go.Proofs.YtfcenlhaepckoaaDoor.P
