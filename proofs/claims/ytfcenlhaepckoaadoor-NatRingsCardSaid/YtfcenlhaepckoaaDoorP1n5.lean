-- Printed by a program of this session (wip/tools) over the kit's print: not trusted, Lean checks it.
import Derived.Test.YtfcenlhaepckoaaDoorP0n5
import Derived.Test.YtfcenlhaepckoaaDoorProg
import Derived.Test.YtfcenlhaepckoaaDoorElibn5
import Derived.Test.YtfcenlhaepckoaaDoorShelfn5
import Derived.Test.YtfcenlhaepckoaaDoorSqn5
import Derived.Test.YtfcenlhaepckoaaDoorLibsn5
namespace Go.Proofs.YtfcenlhaepckoaaDoor.P
set_option linter.all false
open Go.RowKit Go.Proofs.YtfcenlhaepckoaaDoorW.PrintWords Go.Proofs.YtfcenlhaepckoaaDoorW.PrintLast Go.Proofs.YtfcenlhaepckoaaDoorW.PrintMore
attribute [local go_sem] max2_int min2_int max_two min_two max_three min_three max_four min_four   -- for this text's walks alone
attribute [local go_sem] cell_after
set_option linter.unusedVariables false
set_option linter.unusedSimpArgs false

/-! ### nat_right: function 29 -/
def nat_right.l0 : Nat → List Int → Int → Option (Int)
 | 0,_,_ => none
 | k + 1,x0,x3 => if x3 > 0 then (if 0 ≤ (wrap64 (x3 - 1)) then (if (wrap64 (x3 - 1)) < (x0.length : Int) then (if (rd x0 (wrap64 (x3 - 1))) = 0 then (nat_right.l0 k x0 (wrap64 (x3 - 1))) else (some x3)) else (none)) else (none)) else (some x3)
def nat_right.f (k : Nat) (l0 : List Int) : Option (Int) := nat_right.l0 k l0 (l0.length : Int)
set_option maxHeartbeats 8000000 in
set_option maxRecDepth 100000 in
theorem nat_right.calls (k : Nat) (A0 : Option Addr) (c0 : Nat) (l0 : List Int) (r : Int) (w : World) (hr0 : Kd.C (Kd.int .u32) w A0 l0.length l0) (hc0 : l0.length ≤ c0) (h : nat_right.f k l0 = some r) :
  Calls Tryd.prog 29 #[.slice A0 l0.length c0] w fun e w' => e = .returned (.int .i64 r) ∧ Drawn0 w w' := by
 have HR0 := Aside0.mk hr0
 have HC0 := Aside0.mk hc0
 clear hr0 hc0
 have H : (nat_right.l0 k l0 (l0.length : Int)) = some r := h
 clear h
 have H' := Aside0.mk H
 clear H
 go_enter Tryd.func29,Tryd.ntmps29
 go_wp2
 go_loopg [3] k (fun kq v3 w' => ∃ (x3_1 : Int),v3 = .int .i64 x3_1 ∧ Aside0 (nat_right.l0 kq l0 x3_1 = some r) ∧ Aside0 (kq ≤ k) ∧ Drawn0 w w')
 case atStart => exact ⟨((l0.length : Int)),(by first | rfl | (simp;done) | (simp [*];done)),H',⟨Nat.le_refl _⟩,by repeat (first | exact Drawn0.refl _ | apply Drawn0.step)⟩
 case round =>
  clear H'
  obtain ⟨x3_1,rfl,HA,HK1,⟨m1,rfl⟩⟩ := hrel
  cases gk with
  | zero => exact absurd HA.out (by simp [nat_right.l0])
  | succ k1 =>
   have H := HA.out
   clear HA
   simp only [nat_right.l0] at H
   by_cases c2 : x3_1 > 0
   ·rw [if_pos c2] at H
    have c2b0 : decide (0 < x3_1) = true := decide_eq_true c2
    clear c2
    obtain ⟨ji3,hji3⟩ : ∃ j_ : Int,(wrap64 (x3_1 - 1)) = j_ := ⟨_,rfl⟩
    replace H : (if 0 ≤ (ji3) then (if (ji3) < (l0.length : Int) then (if (rd l0 (ji3)) = 0 then (nat_right.l0 k1 l0 ji3) else (some x3_1)) else (none)) else (none)) = some r := by first | (rw [hji3] at H;exact H) | (simp only [hji3] at H ⊢;exact H)
    have hji3w : (IntKind.i64.wrap (x3_1 - 1)) = ji3 := (i64_w _).trans hji3
    by_cases c4 : 0 ≤ (ji3)
    ·rw [if_pos c4] at H
     have c4b0 : decide (0 ≤ (ji3)) = true := decide_eq_true c4
     clear c4
     by_cases c5 : (ji3) < (l0.length : Int)
     ·rw [if_pos c5] at H
      have c5b0 : decide ((ji3) < (l0.length : Int)) = true := decide_eq_true c5
      clear c5
      by_cases c6 : (rd l0 (ji3)) = 0
      ·rw [if_pos c6] at H
       have c6b0 : ((rd l0 (ji3)) == 0) = true := beq_iff_eq.mpr c6
       have c6b1 : ((rd l0 (ji3)) != 0) = false := bne_eq_false_iff_eq.mpr c6
       clear c6
       have H' := Aside0.mk H
       clear H
       have p101 : 0 ≤ ((ji3) : Int) := od_
       have q101 : (ji3) < (l0.length : Int) := od_
       obtain ⟨ad101,e101,hx101_0⟩ := Kd.at_int HR0.out (ji3) p101 q101
       cases e101
       replace p101 := eq_true p101
       replace q101 := eq_true q101
       go_wp2
       (first | go_roundg k1 | (simp only [← hji3];go_roundg k1))
       case measure => have := HK1.out;omega
       case rel => exact ⟨(ji3),(by first | rfl | (simp;done) | (simp only [← hji3] <;> (first | rfl | simp)) | (simp [*];done)),(by first | exact H' | (rw [hji3];exact H')),⟨by have := HK1.out;omega⟩,by repeat (first | exact Drawn0.refl _ | apply Drawn0.step)⟩
      ·rw [if_neg c6] at H
       have c6b0 : ((rd l0 (ji3)) == 0) = false := beq_eq_false_iff_ne.mpr c6
       have c6b1 : ((rd l0 (ji3)) != 0) = true := bne_iff_ne.mpr c6
       obtain rfl := Option.some.inj H
       have p101 : 0 ≤ ((ji3) : Int) := od_
       have q101 : (ji3) < (l0.length : Int) := od_
       obtain ⟨ad101,e101,hx101_0⟩ := Kd.at_int HR0.out (ji3) p101 q101
       cases e101
       replace p101 := eq_true p101
       replace q101 := eq_true q101
       go_wp2
       go_ret
       exact ⟨by first | rfl | (simp;done) | (simp only [← hji3] <;> (first | rfl | simp)) | (simp [*];done),by repeat (first | exact Drawn0.refl _ | apply Drawn0.step)⟩
     ·rw [if_neg c5] at H
      exact absurd H (by simp)
    ·rw [if_neg c4] at H
     exact absurd H (by simp)
   ·rw [if_neg c2] at H
    have c2b0 : decide (0 < x3_1) = false := decide_eq_false c2
    clear c2
    obtain rfl := Option.some.inj H
    go_wp2
    go_ret
    exact ⟨by first | rfl | (simp;done) | (simp [*];done),by repeat (first | exact Drawn0.refl _ | apply Drawn0.step)⟩

/-- A row behind a copy onto it. -/
def overlay_ (xs ys : List Int) : List Int := ys.take (min ys.length xs.length) ++ xs.drop (min ys.length xs.length)
theorem V_hq {α : Type} {d : Kd α} {e : TypeId} {w w' : World} {m base : Nat} {ok : Nat → Prop} {v : Value} {xs : List α} (hq : w.drewN m = w') (h : Kd.V d e w base ok v xs) : Kd.V d e w' base ok v xs := by subst hq;exact Kd.V_drewN h m
theorem nat_right_le : ∀ (k : Nat) (l : List Int) (i r : Int),0 ≤ i → i ≤ l.length → nat_right.l0 k l i = some r → 0 ≤ r ∧ r ≤ i
 | 0,_,_,_,_,_,h => by simp [nat_right.l0] at h
 | k + 1,l,i,r,h0,h1,h => by
  simp only [nat_right.l0] at h
  by_cases c1 : i > 0
  ·rw [if_pos c1] at h
   have w1 : wrap64 (i - 1) = i - 1 ∨ l.length > 9223372036854775807 := by
    by_cases q : l.length ≤ 9223372036854775807
    ·left;unfold wrap64;omega
    ·right;omega
   by_cases c2 : 0 ≤ (wrap64 (i - 1))
   ·rw [if_pos c2] at h
    by_cases c3 : (wrap64 (i - 1)) < (l.length : Int)
    ·rw [if_pos c3] at h
     by_cases c4 : (rd l (wrap64 (i - 1))) = 0
     ·rw [if_pos c4] at h
      obtain ⟨a,b⟩ := nat_right_le k l _ r c2 (by omega) h
      have : wrap64 (i - 1) ≤ i := by unfold wrap64 at *;omega
      exact ⟨a,by omega⟩
     ·rw [if_neg c4] at h;cases h;exact ⟨by omega,by omega⟩
    ·rw [if_neg c3] at h;cases h
   ·rw [if_neg c2] at h;cases h
  ·rw [if_neg c1] at h;cases h;exact ⟨h0,by omega⟩
set_option maxHeartbeats 8000000 in
set_option maxRecDepth 100000 in
theorem nat_cut_read.calls (k : Nat) (A0 : Option Addr) (c0 : Nat) (l0 : List Int) (r : Int) (w : World) (hr0 : Kd.C (Kd.int .u32) w A0 l0.length l0) (hc0 : l0.length ≤ c0) (h : nat_right.f k l0 = some r) {l' : List Int} (hl' : l' = l0.take (r : Int).toNat) :
  Calls Tryd.prog 25 #[.slice A0 l0.length c0] w fun e w' => e = .returned (.slice A0 l'.length c0) ∧ Drawn0 w w' := by
 obtain ⟨hb0,hb1⟩ := nat_right_le k l0 _ r (by omega) (by omega) (show nat_right.l0 k l0 (l0.length : Int) = some r from h)
 have HR0 := Aside0.mk hr0
 have HC0 := Aside0.mk hc0
 have A1 := Aside0.mk h
 obtain ⟨i0,hi0,_,hsz,_⟩ := info_parts (show (Tryd.prog.info? 43).map (fun i => (i.zero,i.size,i.bytes)) = some (some (.int .u32 0),1,4) by kernel_rfl)
 obtain ⟨hcut,_,_⟩ := print_take_of (P := Tryd.prog) (Value.int .u32) 0 24 43 .i64 Tryd.underlying24 hi0 hsz A0 c0 l0 r hb0 hb1 hc0
 rw [← hl'] at hcut
 clear hr0 hc0 h hb0 hb1 hl'
 go_enter Tryd.func25,Tryd.ntmps25
 go_wp2_with (first | (go_at_call 29;(with_reducible refine (nat_right.calls k _ _ l0 r _ HR0.out HC0.out A1.out).mono ?_);rintro e w' ⟨rfl,⟨nd,rfl⟩⟩))
 go_ret
 exact ⟨rfl,by repeat (first | exact Drawn0.refl _ | apply Drawn0.step)⟩

/-! ### nat_Value: function 23 -/
def nat_Value.l0 : Nat → List Int → Int → Int → Int → Option (Int × Bool)
 | 0,_,_,_,_ => none
 | k + 1,x0,x4,x12,x13 => if x13 < x12 then (if 0 ≤ x13 then (if x13 < (x0.length : Int) then (if 0 ≤ (wrap64 (32 * x13)) then (nat_Value.l0 k x0 (Go.bits .or .u64 x4 (shl .u64 (IntKind.u64.wrap (rd x0 x13)) (wrap64 (32 * x13)))) x12 (wrap64 (x13 + 1))) else (none)) else (none)) else (none)) else (some (x4,true))
def nat_Value.f (k : Nat) (l0 : List Int) : Option (Int × Bool) := (nat_right.f k l0).bind fun t102 => (if 0 ≤ t102 then (if t102 ≤ (l0.length : Int) then ((some (l0.take (t102 : Int).toNat : List Int)).bind fun y103 => (if (y103.length : Int) > 2 then (some (0,false)) else (nat_Value.l0 k y103 0 (y103.length : Int) 0))) else (none)) else (none))
set_option maxHeartbeats 8000000 in
set_option maxRecDepth 100000 in
theorem nat_Value.calls (k : Nat) (A0 : Option Addr) (c0 : Nat) (l0 : List Int) (r1 : Int) (r2 : Bool) (w : World) (hr0 : Kd.C (Kd.int .u32) w A0 l0.length l0) (hc0 : l0.length ≤ c0) (h : nat_Value.f k l0 = some (r1,r2)) :
  Calls Tryd.prog 23 #[.slice A0 l0.length c0] w fun e w' => e = .returned (.tuple #[.int .u64 r1,.bool r2]) ∧ Drawn0 w w' := by
 have HR0 := Aside0.mk hr0
 have HC0 := Aside0.mk hc0
 clear hr0 hc0
 have H : ((nat_right.f k l0).bind fun t102 => (if 0 ≤ t102 then (if t102 ≤ (l0.length : Int) then ((some (l0.take (t102 : Int).toNat : List Int)).bind fun y103 => (if (y103.length : Int) > 2 then (some (0,false)) else (nat_Value.l0 k y103 0 (y103.length : Int) 0))) else (none)) else (none))) = some (r1,r2) := h
 clear h
 replace H := Option.bind_eq_some_iff.mp H
 obtain ⟨t102,A20,H⟩ := H
 replace H : (if 0 ≤ t102 then (if t102 ≤ (l0.length : Int) then ((some (l0.take (t102 : Int).toNat : List Int)).bind fun y103 => (if (y103.length : Int) > 2 then (some (0,false)) else (nat_Value.l0 k y103 0 (y103.length : Int) 0))) else (none)) else (none)) = some (r1,r2) := H
 have A2 := Aside0.mk A20
 clear A20
 by_cases c3 : 0 ≤ t102
 ·rw [if_pos c3] at H
  have c3b0 := eq_true c3
  have c3b1 : decide (0 ≤ t102) = true := decide_eq_true c3
  clear c3
  by_cases c4 : t102 ≤ (l0.length : Int)
  ·rw [if_pos c4] at H
   have c4b0 := eq_true c4
   have c4b1 : decide (t102 ≤ (l0.length : Int)) = true := decide_eq_true c4
   clear c4
   obtain ⟨y103,hy103⟩ : ∃ y_ : List Int,y_ = (l0.take (t102 : Int).toNat) := ⟨_,rfl⟩
   replace H : (if (y103.length : Int) > 2 then (some (0,false)) else (nat_Value.l0 k y103 0 (y103.length : Int) 0)) = some (r1,r2) := by first | (rw [hy103];with_reducible exact H) | (have H2_ := (Option.bind_some _ _).symm.trans H;rw [hy103];with_reducible exact H2_) | (have H2_ := (Option.bind_some _ _).symm.trans H;with_reducible exact H2_) | with_reducible exact H | (rw [hy103];exact H) | exact H
   have Ny103 := Aside0.mk hy103
   clear hy103
   by_cases c5 : (y103.length : Int) > 2
   ·rw [if_pos c5] at H
    have c5b0 : decide (2 < (y103.length : Int)) = true := decide_eq_true c5
    have c5b1 : decide (2 < y103.length) = true := decide_eq_true (by omega)
    clear c5
    simp only [Option.some.injEq,Prod.mk.injEq] at H
    obtain ⟨rfl,rfl⟩ := H
    go_enter Tryd.func23,Tryd.ntmps23
    go_wp2_with (first | ((with_reducible refine gate_callee (f := 25) rfl ?_);refine goesL_ (some 7) rfl rfl Tryd.func25 (by kernel_rfl) rfl #[.slice A0 l0.length c0] rfl am_ ?_;(with_reducible refine (nat_cut_read.calls (l' := y103) (hl' := Ny103.out) k _ _ l0 t102 _ ?side1 ?side2 A2.out).mono ?_);(case side1 => exact ca_ HR0.out);(case side2 => exact HC0.out);rintro e w' ⟨rfl,⟨nd,rfl⟩⟩;refine ⟨_,rfl,?_⟩;have q6 : (t102 : Int) ≤ ((l0.length : Int) : Int) := od_;obtain ⟨i06,hi06,_,hsz6,_⟩ := info_parts info43;have hroom6 : l0.length ≤ c0 := HC0.out;have hC6 : Kd.C (Kd.int .u32) _ A0 l0.length l0 := HR0.out;have hcut6 := cut_to (P := Tryd.prog) 24 43 .i64 Tryd.underlying24 hi06 A0 l0.length c0 t102 od_ q6 hroom6;have hr6 := Kd.C_take (m := (t102 : Int).toNat) hC6 (by omega);have hy6 : y103.length = (t102 : Int).toNat := (by rw [Ny103.out,List.length_take];omega);rw [← Ny103.out] at hr6;rw [← hy6] at hcut6;have HR106 := Aside0.mk hr6;have HC106 := Aside0.mk (show y103.length ≤ c0 from by omega);clear hr6 hC6 hroom6 hi06 hsz6;have KY6 := Aside0.mk hy6;clear hy6;replace q6 := eq_true q6))
    go_ret2
    exact ⟨by first | rfl | (simp;done) | (simp [*];done),by repeat (first | exact Drawn0.refl _ | apply Drawn0.step)⟩
   ·rw [if_neg c5] at H
    have c5b0 : decide (2 < (y103.length : Int)) = false := decide_eq_false c5
    have c5b1 : decide (2 < y103.length) = false := decide_eq_false (by omega)
    clear c5
    have H' := Aside0.mk H
    clear H
    go_enter Tryd.func23,Tryd.ntmps23
    go_wp2_with (first | ((with_reducible refine gate_callee (f := 25) rfl ?_);refine goesL_ (some 7) rfl rfl Tryd.func25 (by kernel_rfl) rfl #[.slice A0 l0.length c0] rfl am_ ?_;(with_reducible refine (nat_cut_read.calls (l' := y103) (hl' := Ny103.out) k _ _ l0 t102 _ ?side1 ?side2 A2.out).mono ?_);(case side1 => exact ca_ HR0.out);(case side2 => exact HC0.out);rintro e w' ⟨rfl,⟨nd,rfl⟩⟩;refine ⟨_,rfl,?_⟩;have q7 : (t102 : Int) ≤ ((l0.length : Int) : Int) := od_;obtain ⟨i07,hi07,_,hsz7,_⟩ := info_parts info43;have hroom7 : l0.length ≤ c0 := HC0.out;have hC7 : Kd.C (Kd.int .u32) _ A0 l0.length l0 := HR0.out;have hcut7 := cut_to (P := Tryd.prog) 24 43 .i64 Tryd.underlying24 hi07 A0 l0.length c0 t102 od_ q7 hroom7;have hr7 := Kd.C_take (m := (t102 : Int).toNat) hC7 (by omega);have hy7 : y103.length = (t102 : Int).toNat := (by rw [Ny103.out,List.length_take];omega);rw [← Ny103.out] at hr7;rw [← hy7] at hcut7;have HR106 := Aside0.mk hr7;have HC106 := Aside0.mk (show y103.length ≤ c0 from by omega);clear hr7 hC7 hroom7 hi07 hsz7;have KY7 := Aside0.mk hy7;clear hy7;replace q7 := eq_true q7))
    go_loopg [4,13] k (fun kq v4 v13 w' => ∃ (x4_1 : Int) (x13_1 : Int),v4 = .int .u64 x4_1 ∧ v13 = .int .i64 x13_1 ∧ Aside0 (nat_Value.l0 kq y103 x4_1 (y103.length : Int) x13_1 = some (r1,r2)) ∧ Aside0 (kq ≤ k) ∧ Drawn0 w w')
    case atStart => exact ⟨(0),(0),(by first | rfl | (simp;done) | (simp [*];done)),(by first | rfl | (simp;done) | (simp [*];done)),H',⟨Nat.le_refl _⟩,by repeat (first | exact Drawn0.refl _ | apply Drawn0.step)⟩
    case round =>
     clear H'
     try clear c2
     try clear p2
     try clear c3
     try clear c3b0
     try clear c3b1
     try clear c4
     try clear c4b0
     try clear c4b1
     try clear c5
     try clear c5b0
     try clear c5b1
     try clear q6
     try clear q7
     try clear q6
     try clear q7
     obtain ⟨x4_1,x13_1,rfl,rfl,HA,HK1,⟨m1,rfl⟩⟩ := hrel
     cases gk with
     | zero => exact absurd HA.out (by simp [nat_Value.l0])
     | succ k1 =>
      have H := HA.out
      clear HA
      simp only [nat_Value.l0] at H
      by_cases c8 : x13_1 < (y103.length : Int)
      ·rw [if_pos c8] at H
       have c8b0 : decide (x13_1 < (y103.length : Int)) = true := decide_eq_true c8
       clear c8
       by_cases c9 : 0 ≤ x13_1
       ·rw [if_pos c9] at H
        have c9b0 : decide (0 ≤ x13_1) = true := decide_eq_true c9
        clear c9
        by_cases c10 : x13_1 < (y103.length : Int)
        ·rw [if_pos c10] at H
         have c10b0 : decide (x13_1 < (y103.length : Int)) = true := decide_eq_true c10
         clear c10
         obtain ⟨ji11,hji11⟩ : ∃ j_ : Int,(wrap64 (32 * x13_1)) = j_ := ⟨_,rfl⟩
         replace H : (if 0 ≤ (ji11) then (nat_Value.l0 k1 y103 (Go.bits .or .u64 x4_1 (shl .u64 (IntKind.u64.wrap (rd y103 x13_1)) (ji11))) (y103.length : Int) (wrap64 (x13_1 + 1))) else (none)) = some (r1,r2) := by first | (rw [hji11] at H;exact H) | (simp only [hji11] at H ⊢;exact H)
         have hji11w : (IntKind.i64.wrap (32 * x13_1)) = ji11 := (i64_w _).trans hji11
         by_cases c12 : 0 ≤ (ji11)
         ·rw [if_pos c12] at H
          have c12b0 := eq_true c12
          have c12b1 : decide (0 ≤ (ji11)) = true := decide_eq_true c12
          clear c12
          obtain ⟨ji13,hji13⟩ : ∃ j_ : Int,(shl .u64 (IntKind.u64.wrap (rd y103 x13_1)) (ji11)) = j_ := ⟨_,rfl⟩
          replace H : (nat_Value.l0 k1 y103 (Go.bits .or .u64 x4_1 (ji13)) (y103.length : Int) (wrap64 (x13_1 + 1))) = some (r1,r2) := by first | (rw [hji13] at H;exact H) | (simp only [hji13] at H ⊢;exact H)
          have hji13_ : (IntKind.u64.wrap ((IntKind.u64.wrap (rd y103 x13_1)) * 2 ^ min (ji11).toNat 64)) = ji13 := hji13
          have hji13z : (ji11) ≤ 64 → (IntKind.u64.wrap ((IntKind.u64.wrap (rd y103 x13_1)) * 2 ^ (ji11).toNat)) = ji13 := shl_small hji13
          have H' := Aside0.mk H
          clear H
          have p107 : 0 ≤ (x13_1 : Int) := od_
          have q107 : x13_1 < (y103.length : Int) := od_
          obtain ⟨ad107,e107,hx107_0⟩ := Kd.at_int HR106.out x13_1 p107 q107
          cases e107
          replace p107 := eq_true p107
          replace q107 := eq_true q107
          go_wp2
          (first | go_roundg k1 | (simp only [← hji11,← hji13];go_roundg k1))
          case measure => have := HK1.out;omega
          case rel => exact ⟨(Go.bits .or .u64 x4_1 (ji13)),(wrap64 (x13_1 + 1)),(by first | rfl | (simp;done) | (simp only [← hji13] <;> (first | rfl | simp)) | (simp [*];done)),(by first | rfl | (simp;done) | (simp [*];done)),(by first | exact H' | (rw [hji11];exact H') | (rw [hji13];exact H')),⟨by have := HK1.out;omega⟩,by repeat (first | exact Drawn0.refl _ | apply Drawn0.step)⟩
         ·rw [if_neg c12] at H
          exact absurd H (by simp)
        ·rw [if_neg c10] at H
         exact absurd H (by simp)
       ·rw [if_neg c9] at H
        exact absurd H (by simp)
      ·rw [if_neg c8] at H
       have c8b0 : decide (x13_1 < (y103.length : Int)) = false := decide_eq_false c8
       clear c8
       simp only [Option.some.injEq,Prod.mk.injEq] at H
       obtain ⟨rfl,rfl⟩ := H
       go_wp2
       go_ret2
       exact ⟨by first | rfl | (simp;done) | (simp [*];done),by repeat (first | exact Drawn0.refl _ | apply Drawn0.step)⟩
  ·rw [if_neg c4] at H
   exact absurd H (by simp)
 ·rw [if_neg c3] at H
  exact absurd H (by simp)

/-! ### bits_Len32: function 32 -/
def bits_Len32.f (a0 : Int) : Option Int := if 0 ≤ a0 ∧ a0 ≤ 4294967295 then some (Lib.bitLen a0.toNat) else none
theorem bits_Len32.calls (a0 : Int) (r : Int) (w : World) (h : bits_Len32.f a0 = some r) :
  Calls Tryd.prog 32 #[.int .u32 a0] w fun e w' => e = .returned (.int .i64 r) ∧ Drawn0 w w' := by
 unfold bits_Len32.f at h
 split at h
 ·rename_i hc
  obtain rfl := Option.some.inj h
  refine (Tryd.bits_Len32 a0 w hc.1 hc.2).mono ?_
  rintro e w' ⟨rfl,rfl⟩
  exact ⟨rfl,Drawn0.refl _⟩
 ·cases h

/-! ### nat_Len: function 14 -/
def nat_Len.f (k : Nat) (l0 : List Int) : Option (Int) := (nat_right.f k l0).bind fun t108 => (if 0 ≤ t108 then (if t108 ≤ (l0.length : Int) then ((some (l0.take (t108 : Int).toNat : List Int)).bind fun y109 => (if (y109.length : Int) = 0 then (some 0) else (if 0 ≤ (wrap64 ((y109.length : Int) - 1)) then (if (wrap64 ((y109.length : Int) - 1)) < (y109.length : Int) then ((bits_Len32.f (rd y109 (wrap64 ((y109.length : Int) - 1)))).bind fun t114 => (some (wrap64 ((wrap64 (32 * (wrap64 ((y109.length : Int) - 1)))) + t114)))) else (none)) else (none)))) else (none)) else (none))
set_option maxHeartbeats 8000000 in
set_option maxRecDepth 100000 in
theorem nat_Len.calls (k : Nat) (A0 : Option Addr) (c0 : Nat) (l0 : List Int) (r : Int) (w : World) (hr0 : Kd.C (Kd.int .u32) w A0 l0.length l0) (hc0 : l0.length ≤ c0) (h : nat_Len.f k l0 = some r) :
  Calls Tryd.prog 14 #[.slice A0 l0.length c0] w fun e w' => e = .returned (.int .i64 r) ∧ Drawn0 w w' := by
 have HR0 := Aside0.mk hr0
 have HC0 := Aside0.mk hc0
 clear hr0 hc0
 have H : ((nat_right.f k l0).bind fun t108 => (if 0 ≤ t108 then (if t108 ≤ (l0.length : Int) then ((some (l0.take (t108 : Int).toNat : List Int)).bind fun y109 => (if (y109.length : Int) = 0 then (some 0) else (if 0 ≤ (wrap64 ((y109.length : Int) - 1)) then (if (wrap64 ((y109.length : Int) - 1)) < (y109.length : Int) then ((bits_Len32.f (rd y109 (wrap64 ((y109.length : Int) - 1)))).bind fun t114 => (some (wrap64 ((wrap64 (32 * (wrap64 ((y109.length : Int) - 1)))) + t114)))) else (none)) else (none)))) else (none)) else (none))) = some r := h
 clear h
 replace H := Option.bind_eq_some_iff.mp H
 obtain ⟨t108,A20,H⟩ := H
 replace H : (if 0 ≤ t108 then (if t108 ≤ (l0.length : Int) then ((some (l0.take (t108 : Int).toNat : List Int)).bind fun y109 => (if (y109.length : Int) = 0 then (some 0) else (if 0 ≤ (wrap64 ((y109.length : Int) - 1)) then (if (wrap64 ((y109.length : Int) - 1)) < (y109.length : Int) then ((bits_Len32.f (rd y109 (wrap64 ((y109.length : Int) - 1)))).bind fun t114 => (some (wrap64 ((wrap64 (32 * (wrap64 ((y109.length : Int) - 1)))) + t114)))) else (none)) else (none)))) else (none)) else (none)) = some r := H
 have A2 := Aside0.mk A20
 clear A20
 by_cases c3 : 0 ≤ t108
 ·rw [if_pos c3] at H
  have c3b0 := eq_true c3
  have c3b1 : decide (0 ≤ t108) = true := decide_eq_true c3
  clear c3
  by_cases c4 : t108 ≤ (l0.length : Int)
  ·rw [if_pos c4] at H
   have c4b0 := eq_true c4
   have c4b1 : decide (t108 ≤ (l0.length : Int)) = true := decide_eq_true c4
   clear c4
   obtain ⟨y109,hy109⟩ : ∃ y_ : List Int,y_ = (l0.take (t108 : Int).toNat) := ⟨_,rfl⟩
   replace H : (if (y109.length : Int) = 0 then (some 0) else (if 0 ≤ (wrap64 ((y109.length : Int) - 1)) then (if (wrap64 ((y109.length : Int) - 1)) < (y109.length : Int) then ((bits_Len32.f (rd y109 (wrap64 ((y109.length : Int) - 1)))).bind fun t114 => (some (wrap64 ((wrap64 (32 * (wrap64 ((y109.length : Int) - 1)))) + t114)))) else (none)) else (none))) = some r := by first | (rw [hy109];with_reducible exact H) | (have H2_ := (Option.bind_some _ _).symm.trans H;rw [hy109];with_reducible exact H2_) | (have H2_ := (Option.bind_some _ _).symm.trans H;with_reducible exact H2_) | with_reducible exact H | (rw [hy109];exact H) | exact H
   have Ny109 := Aside0.mk hy109
   clear hy109
   by_cases c5 : (y109.length : Int) = 0
   ·rw [if_pos c5] at H
    have c5b0 : ((y109.length : Int) == 0) = true := beq_iff_eq.mpr c5
    have c5b1 : ((y109.length : Int) != 0) = false := bne_eq_false_iff_eq.mpr c5
    clear c5
    obtain rfl := Option.some.inj H
    go_enter Tryd.func14,Tryd.ntmps14
    go_wp2_with (first | ((with_reducible refine gate_callee (f := 25) rfl ?_);refine goesL_ (some 4) rfl rfl Tryd.func25 (by kernel_rfl) rfl #[.slice A0 l0.length c0] rfl am_ ?_;(with_reducible refine (nat_cut_read.calls (l' := y109) (hl' := Ny109.out) k _ _ l0 t108 _ ?side1 ?side2 A2.out).mono ?_);(case side1 => exact ca_ HR0.out);(case side2 => exact HC0.out);rintro e w' ⟨rfl,⟨nd,rfl⟩⟩;refine ⟨_,rfl,?_⟩;have q6 : (t108 : Int) ≤ ((l0.length : Int) : Int) := od_;obtain ⟨i06,hi06,_,hsz6,_⟩ := info_parts info43;have hroom6 : l0.length ≤ c0 := HC0.out;have hC6 : Kd.C (Kd.int .u32) _ A0 l0.length l0 := HR0.out;have hcut6 := cut_to (P := Tryd.prog) 24 43 .i64 Tryd.underlying24 hi06 A0 l0.length c0 t108 od_ q6 hroom6;have hr6 := Kd.C_take (m := (t108 : Int).toNat) hC6 (by omega);have hy6 : y109.length = (t108 : Int).toNat := (by rw [Ny109.out,List.length_take];omega);rw [← Ny109.out] at hr6;rw [← hy6] at hcut6;have HR112 := Aside0.mk hr6;have HC112 := Aside0.mk (show y109.length ≤ c0 from by omega);clear hr6 hC6 hroom6 hi06 hsz6;have KY6 := Aside0.mk hy6;clear hy6;replace q6 := eq_true q6))
    go_ret
    exact ⟨by first | rfl | (simp;done) | (simp [*];done),by repeat (first | exact Drawn0.refl _ | apply Drawn0.step)⟩
   ·rw [if_neg c5] at H
    have c5b0 : ((y109.length : Int) == 0) = false := beq_eq_false_iff_ne.mpr c5
    have c5b1 : ((y109.length : Int) != 0) = true := bne_iff_ne.mpr c5
    have c5b2 : ¬ (y109 = []) := fun h_ => c5 (by rw [h_];rfl)
    obtain ⟨ji7,hji7⟩ : ∃ j_ : Int,(wrap64 ((y109.length : Int) - 1)) = j_ := ⟨_,rfl⟩
    replace H : (if 0 ≤ (ji7) then (if (ji7) < (y109.length : Int) then ((bits_Len32.f (rd y109 (ji7))).bind fun t114 => (some (wrap64 ((wrap64 (32 * (ji7))) + t114)))) else (none)) else (none)) = some r := by first | (rw [hji7] at H;exact H) | (simp only [hji7] at H ⊢;exact H)
    (try rw [hji7] at A2)
    have hji7w : (IntKind.i64.wrap ((y109.length : Int) - 1)) = ji7 := (i64_w _).trans hji7
    by_cases c8 : 0 ≤ (ji7)
    ·rw [if_pos c8] at H
     have c8b0 : decide (0 ≤ (ji7)) = true := decide_eq_true c8
     clear c8
     by_cases c9 : (ji7) < (y109.length : Int)
     ·rw [if_pos c9] at H
      have c9b0 : decide ((ji7) < (y109.length : Int)) = true := decide_eq_true c9
      clear c9
      replace H := Option.bind_eq_some_iff.mp H
      obtain ⟨t114,A100,H⟩ := H
      replace H : (some (wrap64 ((wrap64 (32 * (ji7))) + t114))) = some r := H
      have A10 := Aside0.mk A100
      clear A100
      obtain rfl := Option.some.inj H
      go_enter Tryd.func14,Tryd.ntmps14
      go_wp2_with (first | ((with_reducible refine gate_callee (f := 25) rfl ?_);refine goesL_ (some 4) rfl rfl Tryd.func25 (by kernel_rfl) rfl #[.slice A0 l0.length c0] rfl am_ ?_;(with_reducible refine (nat_cut_read.calls (l' := y109) (hl' := Ny109.out) k _ _ l0 t108 _ ?side1 ?side2 A2.out).mono ?_);(case side1 => exact ca_ HR0.out);(case side2 => exact HC0.out);rintro e w' ⟨rfl,⟨nd,rfl⟩⟩;refine ⟨_,rfl,?_⟩;have q11 : (t108 : Int) ≤ ((l0.length : Int) : Int) := od_;obtain ⟨i011,hi011,_,hsz11,_⟩ := info_parts info43;have hroom11 : l0.length ≤ c0 := HC0.out;have hC11 : Kd.C (Kd.int .u32) _ A0 l0.length l0 := HR0.out;have hcut11 := cut_to (P := Tryd.prog) 24 43 .i64 Tryd.underlying24 hi011 A0 l0.length c0 t108 od_ q11 hroom11;have hr11 := Kd.C_take (m := (t108 : Int).toNat) hC11 (by omega);have hy11 : y109.length = (t108 : Int).toNat := (by rw [Ny109.out,List.length_take];omega);rw [← Ny109.out] at hr11;rw [← hy11] at hcut11;have HR112 := Aside0.mk hr11;have HC112 := Aside0.mk (show y109.length ≤ c0 from by omega);clear hr11 hC11 hroom11 hi011 hsz11;have KY11 := Aside0.mk hy11;clear hy11;replace q11 := eq_true q11;have p113 : 0 ≤ ((ji7) : Int) := od_;have q113 : (ji7) < (y109.length : Int) := od_;obtain ⟨ad113,e113,hx113_0⟩ := Kd.at_int HR112.out (ji7) p113 q113;cases e113;replace p113 := eq_true p113;replace q113 := eq_true q113) | ((with_reducible refine gate_callee (f := 32) rfl ?_);refine goesL_ (some 18) rfl rfl Tryd.func32 (by kernel_rfl) rfl #[.int .u32 (rd y109 (ji7))] rfl (by (try simp only [List.map_toArray,List.map_cons,List.map_nil]);first | done | (simp only [hji7];rfl) | rfl | (simp only [List.length_drop,List.length_take];rfl)) ?_;(with_reducible refine (bits_Len32.calls (rd y109 (ji7)) t114 _ A10.out).mono ?_);rintro e w' ⟨rfl,⟨nd,rfl⟩⟩;refine ⟨_,rfl,?_⟩))
      go_ret
      exact ⟨by first | rfl | (simp;done) | (simp only [← hji7] <;> (first | rfl | simp)) | (simp [*];done),by repeat (first | exact Drawn0.refl _ | apply Drawn0.step)⟩
     ·rw [if_neg c9] at H
      exact absurd H (by simp)
    ·rw [if_neg c8] at H
     exact absurd H (by simp)
  ·rw [if_neg c4] at H
   exact absurd H (by simp)
 ·rw [if_neg c3] at H
  exact absurd H (by simp)

/-! ### nat_Cmp: function 15 -/
def nat_Cmp.l0 : Nat → List Int → List Int → Int → Int → Option (Int)
 | 0,_,_,_,_ => none
 | k + 1,x0,x1,x22,x23 => if x23 < x22 then (if 0 ≤ (wrap64 ((wrap64 ((x0.length : Int) - 1)) - x23)) then (if (wrap64 ((wrap64 ((x0.length : Int) - 1)) - x23)) < (x0.length : Int) then (if (wrap64 ((wrap64 ((x0.length : Int) - 1)) - x23)) < (x1.length : Int) then (if (rd x0 (wrap64 ((wrap64 ((x0.length : Int) - 1)) - x23))) < (rd x1 (wrap64 ((wrap64 ((x0.length : Int) - 1)) - x23))) then (some (-1)) else (if (rd x0 (wrap64 ((wrap64 ((x0.length : Int) - 1)) - x23))) > (rd x1 (wrap64 ((wrap64 ((x0.length : Int) - 1)) - x23))) then (some 1) else (nat_Cmp.l0 k x0 x1 x22 (wrap64 (x23 + 1))))) else (none)) else (none)) else (none)) else (some 0)
def nat_Cmp.f (k : Nat) (l0 : List Int) (l1 : List Int) : Option (Int) := (nat_right.f k l0).bind fun t115 => (if 0 ≤ t115 then (if t115 ≤ (l0.length : Int) then ((some (l0.take (t115 : Int).toNat : List Int)).bind fun y116 => ((nat_right.f k l1).bind fun t120 => (if 0 ≤ t120 then (if t120 ≤ (l1.length : Int) then ((some (l1.take (t120 : Int).toNat : List Int)).bind fun y121 => (if (y116.length : Int) = (y121.length : Int) then (nat_Cmp.l0 k y116 y121 (y116.length : Int) 0) else (if (y116.length : Int) < (y121.length : Int) then (some (-1)) else (some 1)))) else (none)) else (none)))) else (none)) else (none))
set_option maxHeartbeats 8000000 in
set_option maxRecDepth 100000 in
theorem nat_Cmp.calls (k : Nat) (A0 : Option Addr) (c0 : Nat) (l0 : List Int) (A1 : Option Addr) (c1 : Nat) (l1 : List Int) (r : Int) (w : World) (hr0 : Kd.C (Kd.int .u32) w A0 l0.length l0) (hc0 : l0.length ≤ c0) (hr1 : Kd.C (Kd.int .u32) w A1 l1.length l1) (hc1 : l1.length ≤ c1) (h : nat_Cmp.f k l0 l1 = some r) :
  Calls Tryd.prog 15 #[.slice A0 l0.length c0,.slice A1 l1.length c1] w fun e w' => e = .returned (.int .i64 r) ∧ Drawn0 w w' := by
 have HR0 := Aside0.mk hr0
 have HC0 := Aside0.mk hc0
 clear hr0 hc0
 have HR1 := Aside0.mk hr1
 have HC1 := Aside0.mk hc1
 clear hr1 hc1
 have H : ((nat_right.f k l0).bind fun t115 => (if 0 ≤ t115 then (if t115 ≤ (l0.length : Int) then ((some (l0.take (t115 : Int).toNat : List Int)).bind fun y116 => ((nat_right.f k l1).bind fun t120 => (if 0 ≤ t120 then (if t120 ≤ (l1.length : Int) then ((some (l1.take (t120 : Int).toNat : List Int)).bind fun y121 => (if (y116.length : Int) = (y121.length : Int) then (nat_Cmp.l0 k y116 y121 (y116.length : Int) 0) else (if (y116.length : Int) < (y121.length : Int) then (some (-1)) else (some 1)))) else (none)) else (none)))) else (none)) else (none))) = some r := h
 clear h
 replace H := Option.bind_eq_some_iff.mp H
 obtain ⟨t115,A30,H⟩ := H
 replace H : (if 0 ≤ t115 then (if t115 ≤ (l0.length : Int) then ((some (l0.take (t115 : Int).toNat : List Int)).bind fun y116 => ((nat_right.f k l1).bind fun t120 => (if 0 ≤ t120 then (if t120 ≤ (l1.length : Int) then ((some (l1.take (t120 : Int).toNat : List Int)).bind fun y121 => (if (y116.length : Int) = (y121.length : Int) then (nat_Cmp.l0 k y116 y121 (y116.length : Int) 0) else (if (y116.length : Int) < (y121.length : Int) then (some (-1)) else (some 1)))) else (none)) else (none)))) else (none)) else (none)) = some r := H
 have A3 := Aside0.mk A30
 clear A30
 by_cases c4 : 0 ≤ t115
 ·rw [if_pos c4] at H
  have c4b0 := eq_true c4
  have c4b1 : decide (0 ≤ t115) = true := decide_eq_true c4
  clear c4
  by_cases c5 : t115 ≤ (l0.length : Int)
  ·rw [if_pos c5] at H
   have c5b0 := eq_true c5
   have c5b1 : decide (t115 ≤ (l0.length : Int)) = true := decide_eq_true c5
   clear c5
   obtain ⟨y116,hy116⟩ : ∃ y_ : List Int,y_ = (l0.take (t115 : Int).toNat) := ⟨_,rfl⟩
   replace H : ((nat_right.f k l1).bind fun t120 => (if 0 ≤ t120 then (if t120 ≤ (l1.length : Int) then ((some (l1.take (t120 : Int).toNat : List Int)).bind fun y121 => (if (y116.length : Int) = (y121.length : Int) then (nat_Cmp.l0 k y116 y121 (y116.length : Int) 0) else (if (y116.length : Int) < (y121.length : Int) then (some (-1)) else (some 1)))) else (none)) else (none))) = some r := by first | (rw [hy116];with_reducible exact H) | (have H2_ := (Option.bind_some _ _).symm.trans H;rw [hy116];with_reducible exact H2_) | (have H2_ := (Option.bind_some _ _).symm.trans H;with_reducible exact H2_) | with_reducible exact H | (rw [hy116];exact H) | exact H
   have Ny116 := Aside0.mk hy116
   clear hy116
   replace H := Option.bind_eq_some_iff.mp H
   obtain ⟨t120,A60,H⟩ := H
   replace H : (if 0 ≤ t120 then (if t120 ≤ (l1.length : Int) then ((some (l1.take (t120 : Int).toNat : List Int)).bind fun y121 => (if (y116.length : Int) = (y121.length : Int) then (nat_Cmp.l0 k y116 y121 (y116.length : Int) 0) else (if (y116.length : Int) < (y121.length : Int) then (some (-1)) else (some 1)))) else (none)) else (none)) = some r := H
   have A6 := Aside0.mk A60
   clear A60
   by_cases c7 : 0 ≤ t120
   ·rw [if_pos c7] at H
    have c7b0 := eq_true c7
    have c7b1 : decide (0 ≤ t120) = true := decide_eq_true c7
    clear c7
    by_cases c8 : t120 ≤ (l1.length : Int)
    ·rw [if_pos c8] at H
     have c8b0 := eq_true c8
     have c8b1 : decide (t120 ≤ (l1.length : Int)) = true := decide_eq_true c8
     clear c8
     obtain ⟨y121,hy121⟩ : ∃ y_ : List Int,y_ = (l1.take (t120 : Int).toNat) := ⟨_,rfl⟩
     replace H : (if (y116.length : Int) = (y121.length : Int) then (nat_Cmp.l0 k y116 y121 (y116.length : Int) 0) else (if (y116.length : Int) < (y121.length : Int) then (some (-1)) else (some 1))) = some r := by first | (rw [hy121];with_reducible exact H) | (have H2_ := (Option.bind_some _ _).symm.trans H;rw [hy121];with_reducible exact H2_) | (have H2_ := (Option.bind_some _ _).symm.trans H;with_reducible exact H2_) | with_reducible exact H | (rw [hy121];exact H) | exact H
     have Ny121 := Aside0.mk hy121
     clear hy121
     by_cases c9 : (y116.length : Int) = (y121.length : Int)
     ·rw [if_pos c9] at H
      have c9b0 : ((y116.length : Int) == (y121.length : Int)) = true := beq_iff_eq.mpr c9
      have c9b1 : ((y116.length : Int) != (y121.length : Int)) = false := bne_eq_false_iff_eq.mpr c9
      have c9b2 : (y116.length == y121.length) = true := by first | simpa using c9 | (simp at c9 ⊢;omega)
      clear c9
      have H' := Aside0.mk H
      clear H
      go_enter Tryd.func15,Tryd.ntmps15
      go_wp2_with (first | (go_at_call 25;(with_reducible refine (nat_cut_read.calls (l' := y116) (hl' := Ny116.out) k _ _ l0 t115 _ ?side1 ?side2 A3.out).mono ?_);(case side1 => exact ca_ HR0.out);(case side2 => exact HC0.out);rintro e w' ⟨rfl,⟨nd,rfl⟩⟩;(try first | exact ⟨rfl,_,World.drewN_drewN _ _ _⟩ | exact ⟨rfl,_,Eq.trans (World.drewN_drewN _ _ _) (congrArg (World.drewN _) (Nat.add_assoc _ _ _))⟩);have q10 : (t115 : Int) ≤ ((l0.length : Int) : Int) := od_;obtain ⟨i010,hi010,_,hsz10,_⟩ := info_parts info43;have hroom10 : l0.length ≤ c0 := HC0.out;have hC10 : Kd.C (Kd.int .u32) _ A0 l0.length l0 := HR0.out;have hcut10 := cut_to (P := Tryd.prog) 24 43 .i64 Tryd.underlying24 hi010 A0 l0.length c0 t115 od_ q10 hroom10;have hr10 := Kd.C_take (m := (t115 : Int).toNat) hC10 (by omega);have hy10 : y116.length = (t115 : Int).toNat := (by rw [Ny116.out,List.length_take];omega);rw [← Ny116.out] at hr10;rw [← hy10] at hcut10;have HR119 := Aside0.mk hr10;have HC119 := Aside0.mk (show y116.length ≤ c0 from by omega);clear hr10 hC10 hroom10 hi010 hsz10;have KY10 := Aside0.mk hy10;clear hy10;replace q10 := eq_true q10) | (go_at_call 25;(with_reducible refine (nat_cut_read.calls (l' := y121) (hl' := Ny121.out) k _ _ l1 t120 _ ?side1 ?side2 A6.out).mono ?_);(case side1 => exact ca_ HR1.out);(case side2 => exact HC1.out);rintro e w' ⟨rfl,⟨nd,rfl⟩⟩;(try first | exact ⟨rfl,_,World.drewN_drewN _ _ _⟩ | exact ⟨rfl,_,Eq.trans (World.drewN_drewN _ _ _) (congrArg (World.drewN _) (Nat.add_assoc _ _ _))⟩);have q11 : (t120 : Int) ≤ ((l1.length : Int) : Int) := od_;obtain ⟨i011,hi011,_,hsz11,_⟩ := info_parts info43;have hroom11 : l1.length ≤ c1 := HC1.out;have hC11 : Kd.C (Kd.int .u32) _ A1 l1.length l1 := HR1.out;have hcut11 := cut_to (P := Tryd.prog) 24 43 .i64 Tryd.underlying24 hi011 A1 l1.length c1 t120 od_ q11 hroom11;have hr11 := Kd.C_take (m := (t120 : Int).toNat) hC11 (by omega);have hy11 : y121.length = (t120 : Int).toNat := (by rw [Ny121.out,List.length_take];omega);rw [← Ny121.out] at hr11;rw [← hy11] at hcut11;have HR124 := Aside0.mk hr11;have HC124 := Aside0.mk (show y121.length ≤ c1 from by omega);clear hr11 hC11 hroom11 hi011 hsz11;have KY11 := Aside0.mk hy11;clear hy11;replace q11 := eq_true q11))
      repeat (go_quiet (first | (go_at_call 25;(with_reducible refine (nat_cut_read.calls (l' := y116) (hl' := Ny116.out) k _ _ l0 t115 _ ?side1 ?side2 A3.out).mono ?_);(case side1 => exact ca_ HR0.out);(case side2 => exact HC0.out);rintro e w' ⟨rfl,⟨nd,rfl⟩⟩;(try first | exact ⟨rfl,_,World.drewN_drewN _ _ _⟩ | exact ⟨rfl,_,Eq.trans (World.drewN_drewN _ _ _) (congrArg (World.drewN _) (Nat.add_assoc _ _ _))⟩);have q10 : (t115 : Int) ≤ ((l0.length : Int) : Int) := od_;obtain ⟨i010,hi010,_,hsz10,_⟩ := info_parts info43;have hroom10 : l0.length ≤ c0 := HC0.out;have hC10 : Kd.C (Kd.int .u32) _ A0 l0.length l0 := HR0.out;have hcut10 := cut_to (P := Tryd.prog) 24 43 .i64 Tryd.underlying24 hi010 A0 l0.length c0 t115 od_ q10 hroom10;have hr10 := Kd.C_take (m := (t115 : Int).toNat) hC10 (by omega);have hy10 : y116.length = (t115 : Int).toNat := (by rw [Ny116.out,List.length_take];omega);rw [← Ny116.out] at hr10;rw [← hy10] at hcut10;have HR119 := Aside0.mk hr10;have HC119 := Aside0.mk (show y116.length ≤ c0 from by omega);clear hr10 hC10 hroom10 hi010 hsz10;have KY10 := Aside0.mk hy10;clear hy10;replace q10 := eq_true q10) | (go_at_call 25;(with_reducible refine (nat_cut_read.calls (l' := y121) (hl' := Ny121.out) k _ _ l1 t120 _ ?side1 ?side2 A6.out).mono ?_);(case side1 => exact ca_ HR1.out);(case side2 => exact HC1.out);rintro e w' ⟨rfl,⟨nd,rfl⟩⟩;(try first | exact ⟨rfl,_,World.drewN_drewN _ _ _⟩ | exact ⟨rfl,_,Eq.trans (World.drewN_drewN _ _ _) (congrArg (World.drewN _) (Nat.add_assoc _ _ _))⟩);have q11 : (t120 : Int) ≤ ((l1.length : Int) : Int) := od_;obtain ⟨i011,hi011,_,hsz11,_⟩ := info_parts info43;have hroom11 : l1.length ≤ c1 := HC1.out;have hC11 : Kd.C (Kd.int .u32) _ A1 l1.length l1 := HR1.out;have hcut11 := cut_to (P := Tryd.prog) 24 43 .i64 Tryd.underlying24 hi011 A1 l1.length c1 t120 od_ q11 hroom11;have hr11 := Kd.C_take (m := (t120 : Int).toNat) hC11 (by omega);have hy11 : y121.length = (t120 : Int).toNat := (by rw [Ny121.out,List.length_take];omega);rw [← Ny121.out] at hr11;rw [← hy11] at hcut11;have HR124 := Aside0.mk hr11;have HC124 := Aside0.mk (show y121.length ≤ c1 from by omega);clear hr11 hC11 hroom11 hi011 hsz11;have KY11 := Aside0.mk hy11;clear hy11;replace q11 := eq_true q11));try go_wp2_with (first | (go_at_call 25;(with_reducible refine (nat_cut_read.calls (l' := y116) (hl' := Ny116.out) k _ _ l0 t115 _ ?side1 ?side2 A3.out).mono ?_);(case side1 => exact ca_ HR0.out);(case side2 => exact HC0.out);rintro e w' ⟨rfl,⟨nd,rfl⟩⟩;(try first | exact ⟨rfl,_,World.drewN_drewN _ _ _⟩ | exact ⟨rfl,_,Eq.trans (World.drewN_drewN _ _ _) (congrArg (World.drewN _) (Nat.add_assoc _ _ _))⟩);have q10 : (t115 : Int) ≤ ((l0.length : Int) : Int) := od_;obtain ⟨i010,hi010,_,hsz10,_⟩ := info_parts info43;have hroom10 : l0.length ≤ c0 := HC0.out;have hC10 : Kd.C (Kd.int .u32) _ A0 l0.length l0 := HR0.out;have hcut10 := cut_to (P := Tryd.prog) 24 43 .i64 Tryd.underlying24 hi010 A0 l0.length c0 t115 od_ q10 hroom10;have hr10 := Kd.C_take (m := (t115 : Int).toNat) hC10 (by omega);have hy10 : y116.length = (t115 : Int).toNat := (by rw [Ny116.out,List.length_take];omega);rw [← Ny116.out] at hr10;rw [← hy10] at hcut10;have HR119 := Aside0.mk hr10;have HC119 := Aside0.mk (show y116.length ≤ c0 from by omega);clear hr10 hC10 hroom10 hi010 hsz10;have KY10 := Aside0.mk hy10;clear hy10;replace q10 := eq_true q10) | (go_at_call 25;(with_reducible refine (nat_cut_read.calls (l' := y121) (hl' := Ny121.out) k _ _ l1 t120 _ ?side1 ?side2 A6.out).mono ?_);(case side1 => exact ca_ HR1.out);(case side2 => exact HC1.out);rintro e w' ⟨rfl,⟨nd,rfl⟩⟩;(try first | exact ⟨rfl,_,World.drewN_drewN _ _ _⟩ | exact ⟨rfl,_,Eq.trans (World.drewN_drewN _ _ _) (congrArg (World.drewN _) (Nat.add_assoc _ _ _))⟩);have q11 : (t120 : Int) ≤ ((l1.length : Int) : Int) := od_;obtain ⟨i011,hi011,_,hsz11,_⟩ := info_parts info43;have hroom11 : l1.length ≤ c1 := HC1.out;have hC11 : Kd.C (Kd.int .u32) _ A1 l1.length l1 := HR1.out;have hcut11 := cut_to (P := Tryd.prog) 24 43 .i64 Tryd.underlying24 hi011 A1 l1.length c1 t120 od_ q11 hroom11;have hr11 := Kd.C_take (m := (t120 : Int).toNat) hC11 (by omega);have hy11 : y121.length = (t120 : Int).toNat := (by rw [Ny121.out,List.length_take];omega);rw [← Ny121.out] at hr11;rw [← hy11] at hcut11;have HR124 := Aside0.mk hr11;have HC124 := Aside0.mk (show y121.length ≤ c1 from by omega);clear hr11 hC11 hroom11 hi011 hsz11;have KY11 := Aside0.mk hy11;clear hy11;replace q11 := eq_true q11)))
      go_loopg [23] k (fun kq v23 w' => ∃ (x23_1 : Int),v23 = .int .i64 x23_1 ∧ Aside0 (nat_Cmp.l0 kq y116 y121 (y116.length : Int) x23_1 = some r) ∧ Aside0 (kq ≤ k) ∧ Drawn0 w w')
      case atStart => exact ⟨(0),(by first | rfl | (simp;done) | (simp [*];done)),H',⟨Nat.le_refl _⟩,by repeat (first | exact Drawn0.refl _ | apply Drawn0.step)⟩
      case round =>
       clear H'
       try clear c1
       try clear q1
       try clear p2
       try clear c4
       try clear c4b0
       try clear c4b1
       try clear c5
       try clear c5b0
       try clear c5b1
       try clear c7
       try clear c7b0
       try clear c7b1
       try clear c8
       try clear c8b0
       try clear c8b1
       try clear c9
       try clear c9b0
       try clear c9b1
       try clear c9b2
       try clear q10
       try clear q11
       try clear q10
       try clear q11
       obtain ⟨x23_1,rfl,HA,HK1,⟨m1,rfl⟩⟩ := hrel
       cases gk with
       | zero => exact absurd HA.out (by simp [nat_Cmp.l0])
       | succ k1 =>
        have H := HA.out
        clear HA
        simp only [nat_Cmp.l0] at H
        by_cases c12 : x23_1 < (y116.length : Int)
        ·rw [if_pos c12] at H
         have c12b0 : decide (x23_1 < (y116.length : Int)) = true := decide_eq_true c12
         clear c12
         obtain ⟨ji13,hji13⟩ : ∃ j_ : Int,(wrap64 ((wrap64 ((y116.length : Int) - 1)) - x23_1)) = j_ := ⟨_,rfl⟩
         replace H : (if 0 ≤ (ji13) then (if (ji13) < (y116.length : Int) then (if (ji13) < (y121.length : Int) then (if (rd y116 (ji13)) < (rd y121 (ji13)) then (some (-1)) else (if (rd y116 (ji13)) > (rd y121 (ji13)) then (some 1) else (nat_Cmp.l0 k1 y116 y121 (y116.length : Int) (wrap64 (x23_1 + 1))))) else (none)) else (none)) else (none)) = some r := by first | (rw [hji13] at H;exact H) | (simp only [hji13] at H ⊢;exact H)
         have hji13w : (IntKind.i64.wrap ((wrap64 ((y116.length : Int) - 1)) - x23_1)) = ji13 := (i64_w _).trans hji13
         by_cases c14 : 0 ≤ (ji13)
         ·rw [if_pos c14] at H
          have c14b0 : decide (0 ≤ (ji13)) = true := decide_eq_true c14
          clear c14
          by_cases c15 : (ji13) < (y116.length : Int)
          ·rw [if_pos c15] at H
           have c15b0 : decide ((ji13) < (y116.length : Int)) = true := decide_eq_true c15
           clear c15
           by_cases c16 : (ji13) < (y121.length : Int)
           ·rw [if_pos c16] at H
            have c16b0 : decide ((ji13) < (y121.length : Int)) = true := decide_eq_true c16
            clear c16
            by_cases c17 : (rd y116 (ji13)) < (rd y121 (ji13))
            ·rw [if_pos c17] at H
             have c17b0 : decide ((rd y116 (ji13)) < (rd y121 (ji13))) = true := decide_eq_true c17
             clear c17
             obtain rfl := Option.some.inj H
             have p125 : 0 ≤ ((ji13) : Int) := od_
             have q125 : (ji13) < (y116.length : Int) := od_
             obtain ⟨ad125,e125,hx125_0⟩ := Kd.at_int HR119.out (ji13) p125 q125
             cases e125
             replace p125 := eq_true p125
             replace q125 := eq_true q125
             have p126 : 0 ≤ ((ji13) : Int) := od_
             have q126 : (ji13) < (y121.length : Int) := od_
             obtain ⟨ad126,e126,hx126_0⟩ := Kd.at_int HR124.out (ji13) p126 q126
             cases e126
             replace p126 := eq_true p126
             replace q126 := eq_true q126
             go_wp2
             repeat (go_quiet (fail);try go_wp2)
             go_ret
             exact ⟨by first | rfl | (simp;done) | (simp only [← hji13] <;> (first | rfl | simp)) | (simp [*];done),by repeat (first | exact Drawn0.refl _ | apply Drawn0.step)⟩
            ·rw [if_neg c17] at H
             have c17b0 : decide ((rd y116 (ji13)) < (rd y121 (ji13))) = false := decide_eq_false c17
             clear c17
             by_cases c18 : (rd y116 (ji13)) > (rd y121 (ji13))
             ·rw [if_pos c18] at H
              have c18b0 : decide ((rd y121 (ji13)) < (rd y116 (ji13))) = true := decide_eq_true c18
              clear c18
              obtain rfl := Option.some.inj H
              have p125 : 0 ≤ ((ji13) : Int) := od_
              have q125 : (ji13) < (y116.length : Int) := od_
              obtain ⟨ad125,e125,hx125_0⟩ := Kd.at_int HR119.out (ji13) p125 q125
              cases e125
              replace p125 := eq_true p125
              replace q125 := eq_true q125
              have p126 : 0 ≤ ((ji13) : Int) := od_
              have q126 : (ji13) < (y121.length : Int) := od_
              obtain ⟨ad126,e126,hx126_0⟩ := Kd.at_int HR124.out (ji13) p126 q126
              cases e126
              replace p126 := eq_true p126
              replace q126 := eq_true q126
              have p127 : 0 ≤ ((ji13) : Int) := od_
              have q127 : (ji13) < (y116.length : Int) := od_
              obtain ⟨ad127,e127,hx127_0⟩ := Kd.at_int HR119.out (ji13) p127 q127
              obtain rfl : ad125 = ad127 := (by injection e127)
              replace p127 := eq_true p127
              replace q127 := eq_true q127
              have p128 : 0 ≤ ((ji13) : Int) := od_
              have q128 : (ji13) < (y121.length : Int) := od_
              obtain ⟨ad128,e128,hx128_0⟩ := Kd.at_int HR124.out (ji13) p128 q128
              obtain rfl : ad126 = ad128 := (by injection e128)
              replace p128 := eq_true p128
              replace q128 := eq_true q128
              go_wp2
              repeat (go_quiet (fail);try go_wp2)
              go_ret
              exact ⟨by first | rfl | (simp;done) | (simp only [← hji13] <;> (first | rfl | simp)) | (simp [*];done),by repeat (first | exact Drawn0.refl _ | apply Drawn0.step)⟩
             ·rw [if_neg c18] at H
              have c18b0 : decide ((rd y121 (ji13)) < (rd y116 (ji13))) = false := decide_eq_false c18
              clear c18
              have H' := Aside0.mk H
              clear H
              have p125 : 0 ≤ ((ji13) : Int) := od_
              have q125 : (ji13) < (y116.length : Int) := od_
              obtain ⟨ad125,e125,hx125_0⟩ := Kd.at_int HR119.out (ji13) p125 q125
              cases e125
              replace p125 := eq_true p125
              replace q125 := eq_true q125
              have p126 : 0 ≤ ((ji13) : Int) := od_
              have q126 : (ji13) < (y121.length : Int) := od_
              obtain ⟨ad126,e126,hx126_0⟩ := Kd.at_int HR124.out (ji13) p126 q126
              cases e126
              replace p126 := eq_true p126
              replace q126 := eq_true q126
              have p127 : 0 ≤ ((ji13) : Int) := od_
              have q127 : (ji13) < (y116.length : Int) := od_
              obtain ⟨ad127,e127,hx127_0⟩ := Kd.at_int HR119.out (ji13) p127 q127
              obtain rfl : ad125 = ad127 := (by injection e127)
              replace p127 := eq_true p127
              replace q127 := eq_true q127
              have p128 : 0 ≤ ((ji13) : Int) := od_
              have q128 : (ji13) < (y121.length : Int) := od_
              obtain ⟨ad128,e128,hx128_0⟩ := Kd.at_int HR124.out (ji13) p128 q128
              obtain rfl : ad126 = ad128 := (by injection e128)
              replace p128 := eq_true p128
              replace q128 := eq_true q128
              go_wp2
              repeat (go_quiet (fail);try go_wp2)
              (first | go_roundg k1 | (simp only [← hji13];go_roundg k1))
              case measure => have := HK1.out;omega
              case rel => exact ⟨(wrap64 (x23_1 + 1)),(by first | rfl | (simp;done) | (simp [*];done)),(by first | exact H' | (rw [hji13];exact H')),⟨by have := HK1.out;omega⟩,by repeat (first | exact Drawn0.refl _ | apply Drawn0.step)⟩
           ·rw [if_neg c16] at H
            exact absurd H (by simp)
          ·rw [if_neg c15] at H
           exact absurd H (by simp)
         ·rw [if_neg c14] at H
          exact absurd H (by simp)
        ·rw [if_neg c12] at H
         have c12b0 : decide (x23_1 < (y116.length : Int)) = false := decide_eq_false c12
         clear c12
         obtain rfl := Option.some.inj H
         go_wp2
         repeat (go_quiet (fail);try go_wp2)
         go_ret
         exact ⟨by first | rfl | (simp;done) | (simp [*];done),by repeat (first | exact Drawn0.refl _ | apply Drawn0.step)⟩
     ·rw [if_neg c9] at H
      have c9b0 : ((y116.length : Int) == (y121.length : Int)) = false := beq_eq_false_iff_ne.mpr c9
      have c9b1 : ((y116.length : Int) != (y121.length : Int)) = true := bne_iff_ne.mpr c9
      have c9b2 : (y116.length == y121.length) = false := by first | simpa using c9 | (simp at c9 ⊢;omega)
      by_cases c19 : (y116.length : Int) < (y121.length : Int)
      ·rw [if_pos c19] at H
       have c19b0 : decide ((y116.length : Int) < (y121.length : Int)) = true := decide_eq_true c19
       have c19b1 : decide (y116.length < y121.length) = true := decide_eq_true (Int.ofNat_lt.mp c19)
       clear c19
       obtain rfl := Option.some.inj H
       go_enter Tryd.func15,Tryd.ntmps15
       go_wp2_with (first | (go_at_call 25;(with_reducible refine (nat_cut_read.calls (l' := y116) (hl' := Ny116.out) k _ _ l0 t115 _ ?side1 ?side2 A3.out).mono ?_);(case side1 => exact ca_ HR0.out);(case side2 => exact HC0.out);rintro e w' ⟨rfl,⟨nd,rfl⟩⟩;(try first | exact ⟨rfl,_,World.drewN_drewN _ _ _⟩ | exact ⟨rfl,_,Eq.trans (World.drewN_drewN _ _ _) (congrArg (World.drewN _) (Nat.add_assoc _ _ _))⟩);have q20 : (t115 : Int) ≤ ((l0.length : Int) : Int) := od_;obtain ⟨i020,hi020,_,hsz20,_⟩ := info_parts info43;have hroom20 : l0.length ≤ c0 := HC0.out;have hC20 : Kd.C (Kd.int .u32) _ A0 l0.length l0 := HR0.out;have hcut20 := cut_to (P := Tryd.prog) 24 43 .i64 Tryd.underlying24 hi020 A0 l0.length c0 t115 od_ q20 hroom20;have hr20 := Kd.C_take (m := (t115 : Int).toNat) hC20 (by omega);have hy20 : y116.length = (t115 : Int).toNat := (by rw [Ny116.out,List.length_take];omega);rw [← Ny116.out] at hr20;rw [← hy20] at hcut20;have HR119 := Aside0.mk hr20;have HC119 := Aside0.mk (show y116.length ≤ c0 from by omega);clear hr20 hC20 hroom20 hi020 hsz20;have KY20 := Aside0.mk hy20;clear hy20;replace q20 := eq_true q20) | (go_at_call 25;(with_reducible refine (nat_cut_read.calls (l' := y121) (hl' := Ny121.out) k _ _ l1 t120 _ ?side1 ?side2 A6.out).mono ?_);(case side1 => exact ca_ HR1.out);(case side2 => exact HC1.out);rintro e w' ⟨rfl,⟨nd,rfl⟩⟩;(try first | exact ⟨rfl,_,World.drewN_drewN _ _ _⟩ | exact ⟨rfl,_,Eq.trans (World.drewN_drewN _ _ _) (congrArg (World.drewN _) (Nat.add_assoc _ _ _))⟩);have q21 : (t120 : Int) ≤ ((l1.length : Int) : Int) := od_;obtain ⟨i021,hi021,_,hsz21,_⟩ := info_parts info43;have hroom21 : l1.length ≤ c1 := HC1.out;have hC21 : Kd.C (Kd.int .u32) _ A1 l1.length l1 := HR1.out;have hcut21 := cut_to (P := Tryd.prog) 24 43 .i64 Tryd.underlying24 hi021 A1 l1.length c1 t120 od_ q21 hroom21;have hr21 := Kd.C_take (m := (t120 : Int).toNat) hC21 (by omega);have hy21 : y121.length = (t120 : Int).toNat := (by rw [Ny121.out,List.length_take];omega);rw [← Ny121.out] at hr21;rw [← hy21] at hcut21;have HR124 := Aside0.mk hr21;have HC124 := Aside0.mk (show y121.length ≤ c1 from by omega);clear hr21 hC21 hroom21 hi021 hsz21;have KY21 := Aside0.mk hy21;clear hy21;replace q21 := eq_true q21))
       repeat (go_quiet (first | (go_at_call 25;(with_reducible refine (nat_cut_read.calls (l' := y116) (hl' := Ny116.out) k _ _ l0 t115 _ ?side1 ?side2 A3.out).mono ?_);(case side1 => exact ca_ HR0.out);(case side2 => exact HC0.out);rintro e w' ⟨rfl,⟨nd,rfl⟩⟩;(try first | exact ⟨rfl,_,World.drewN_drewN _ _ _⟩ | exact ⟨rfl,_,Eq.trans (World.drewN_drewN _ _ _) (congrArg (World.drewN _) (Nat.add_assoc _ _ _))⟩);have q20 : (t115 : Int) ≤ ((l0.length : Int) : Int) := od_;obtain ⟨i020,hi020,_,hsz20,_⟩ := info_parts info43;have hroom20 : l0.length ≤ c0 := HC0.out;have hC20 : Kd.C (Kd.int .u32) _ A0 l0.length l0 := HR0.out;have hcut20 := cut_to (P := Tryd.prog) 24 43 .i64 Tryd.underlying24 hi020 A0 l0.length c0 t115 od_ q20 hroom20;have hr20 := Kd.C_take (m := (t115 : Int).toNat) hC20 (by omega);have hy20 : y116.length = (t115 : Int).toNat := (by rw [Ny116.out,List.length_take];omega);rw [← Ny116.out] at hr20;rw [← hy20] at hcut20;have HR119 := Aside0.mk hr20;have HC119 := Aside0.mk (show y116.length ≤ c0 from by omega);clear hr20 hC20 hroom20 hi020 hsz20;have KY20 := Aside0.mk hy20;clear hy20;replace q20 := eq_true q20) | (go_at_call 25;(with_reducible refine (nat_cut_read.calls (l' := y121) (hl' := Ny121.out) k _ _ l1 t120 _ ?side1 ?side2 A6.out).mono ?_);(case side1 => exact ca_ HR1.out);(case side2 => exact HC1.out);rintro e w' ⟨rfl,⟨nd,rfl⟩⟩;(try first | exact ⟨rfl,_,World.drewN_drewN _ _ _⟩ | exact ⟨rfl,_,Eq.trans (World.drewN_drewN _ _ _) (congrArg (World.drewN _) (Nat.add_assoc _ _ _))⟩);have q21 : (t120 : Int) ≤ ((l1.length : Int) : Int) := od_;obtain ⟨i021,hi021,_,hsz21,_⟩ := info_parts info43;have hroom21 : l1.length ≤ c1 := HC1.out;have hC21 : Kd.C (Kd.int .u32) _ A1 l1.length l1 := HR1.out;have hcut21 := cut_to (P := Tryd.prog) 24 43 .i64 Tryd.underlying24 hi021 A1 l1.length c1 t120 od_ q21 hroom21;have hr21 := Kd.C_take (m := (t120 : Int).toNat) hC21 (by omega);have hy21 : y121.length = (t120 : Int).toNat := (by rw [Ny121.out,List.length_take];omega);rw [← Ny121.out] at hr21;rw [← hy21] at hcut21;have HR124 := Aside0.mk hr21;have HC124 := Aside0.mk (show y121.length ≤ c1 from by omega);clear hr21 hC21 hroom21 hi021 hsz21;have KY21 := Aside0.mk hy21;clear hy21;replace q21 := eq_true q21));try go_wp2_with (first | (go_at_call 25;(with_reducible refine (nat_cut_read.calls (l' := y116) (hl' := Ny116.out) k _ _ l0 t115 _ ?side1 ?side2 A3.out).mono ?_);(case side1 => exact ca_ HR0.out);(case side2 => exact HC0.out);rintro e w' ⟨rfl,⟨nd,rfl⟩⟩;(try first | exact ⟨rfl,_,World.drewN_drewN _ _ _⟩ | exact ⟨rfl,_,Eq.trans (World.drewN_drewN _ _ _) (congrArg (World.drewN _) (Nat.add_assoc _ _ _))⟩);have q20 : (t115 : Int) ≤ ((l0.length : Int) : Int) := od_;obtain ⟨i020,hi020,_,hsz20,_⟩ := info_parts info43;have hroom20 : l0.length ≤ c0 := HC0.out;have hC20 : Kd.C (Kd.int .u32) _ A0 l0.length l0 := HR0.out;have hcut20 := cut_to (P := Tryd.prog) 24 43 .i64 Tryd.underlying24 hi020 A0 l0.length c0 t115 od_ q20 hroom20;have hr20 := Kd.C_take (m := (t115 : Int).toNat) hC20 (by omega);have hy20 : y116.length = (t115 : Int).toNat := (by rw [Ny116.out,List.length_take];omega);rw [← Ny116.out] at hr20;rw [← hy20] at hcut20;have HR119 := Aside0.mk hr20;have HC119 := Aside0.mk (show y116.length ≤ c0 from by omega);clear hr20 hC20 hroom20 hi020 hsz20;have KY20 := Aside0.mk hy20;clear hy20;replace q20 := eq_true q20) | (go_at_call 25;(with_reducible refine (nat_cut_read.calls (l' := y121) (hl' := Ny121.out) k _ _ l1 t120 _ ?side1 ?side2 A6.out).mono ?_);(case side1 => exact ca_ HR1.out);(case side2 => exact HC1.out);rintro e w' ⟨rfl,⟨nd,rfl⟩⟩;(try first | exact ⟨rfl,_,World.drewN_drewN _ _ _⟩ | exact ⟨rfl,_,Eq.trans (World.drewN_drewN _ _ _) (congrArg (World.drewN _) (Nat.add_assoc _ _ _))⟩);have q21 : (t120 : Int) ≤ ((l1.length : Int) : Int) := od_;obtain ⟨i021,hi021,_,hsz21,_⟩ := info_parts info43;have hroom21 : l1.length ≤ c1 := HC1.out;have hC21 : Kd.C (Kd.int .u32) _ A1 l1.length l1 := HR1.out;have hcut21 := cut_to (P := Tryd.prog) 24 43 .i64 Tryd.underlying24 hi021 A1 l1.length c1 t120 od_ q21 hroom21;have hr21 := Kd.C_take (m := (t120 : Int).toNat) hC21 (by omega);have hy21 : y121.length = (t120 : Int).toNat := (by rw [Ny121.out,List.length_take];omega);rw [← Ny121.out] at hr21;rw [← hy21] at hcut21;have HR124 := Aside0.mk hr21;have HC124 := Aside0.mk (show y121.length ≤ c1 from by omega);clear hr21 hC21 hroom21 hi021 hsz21;have KY21 := Aside0.mk hy21;clear hy21;replace q21 := eq_true q21)))
       go_ret
       exact ⟨by first | rfl | (simp;done) | (simp [*];done),by repeat (first | exact Drawn0.refl _ | apply Drawn0.step)⟩
      ·rw [if_neg c19] at H
       have c19b0 : decide ((y116.length : Int) < (y121.length : Int)) = false := decide_eq_false c19
       have c19b1 : decide (y116.length < y121.length) = false := decide_eq_false (fun h => c19 (Int.ofNat_lt.mpr h))
       clear c19
       obtain rfl := Option.some.inj H
       go_enter Tryd.func15,Tryd.ntmps15
       go_wp2_with (first | (go_at_call 25;(with_reducible refine (nat_cut_read.calls (l' := y116) (hl' := Ny116.out) k _ _ l0 t115 _ ?side1 ?side2 A3.out).mono ?_);(case side1 => exact ca_ HR0.out);(case side2 => exact HC0.out);rintro e w' ⟨rfl,⟨nd,rfl⟩⟩;(try first | exact ⟨rfl,_,World.drewN_drewN _ _ _⟩ | exact ⟨rfl,_,Eq.trans (World.drewN_drewN _ _ _) (congrArg (World.drewN _) (Nat.add_assoc _ _ _))⟩);have q22 : (t115 : Int) ≤ ((l0.length : Int) : Int) := od_;obtain ⟨i022,hi022,_,hsz22,_⟩ := info_parts info43;have hroom22 : l0.length ≤ c0 := HC0.out;have hC22 : Kd.C (Kd.int .u32) _ A0 l0.length l0 := HR0.out;have hcut22 := cut_to (P := Tryd.prog) 24 43 .i64 Tryd.underlying24 hi022 A0 l0.length c0 t115 od_ q22 hroom22;have hr22 := Kd.C_take (m := (t115 : Int).toNat) hC22 (by omega);have hy22 : y116.length = (t115 : Int).toNat := (by rw [Ny116.out,List.length_take];omega);rw [← Ny116.out] at hr22;rw [← hy22] at hcut22;have HR119 := Aside0.mk hr22;have HC119 := Aside0.mk (show y116.length ≤ c0 from by omega);clear hr22 hC22 hroom22 hi022 hsz22;have KY22 := Aside0.mk hy22;clear hy22;replace q22 := eq_true q22) | (go_at_call 25;(with_reducible refine (nat_cut_read.calls (l' := y121) (hl' := Ny121.out) k _ _ l1 t120 _ ?side1 ?side2 A6.out).mono ?_);(case side1 => exact ca_ HR1.out);(case side2 => exact HC1.out);rintro e w' ⟨rfl,⟨nd,rfl⟩⟩;(try first | exact ⟨rfl,_,World.drewN_drewN _ _ _⟩ | exact ⟨rfl,_,Eq.trans (World.drewN_drewN _ _ _) (congrArg (World.drewN _) (Nat.add_assoc _ _ _))⟩);have q23 : (t120 : Int) ≤ ((l1.length : Int) : Int) := od_;obtain ⟨i023,hi023,_,hsz23,_⟩ := info_parts info43;have hroom23 : l1.length ≤ c1 := HC1.out;have hC23 : Kd.C (Kd.int .u32) _ A1 l1.length l1 := HR1.out;have hcut23 := cut_to (P := Tryd.prog) 24 43 .i64 Tryd.underlying24 hi023 A1 l1.length c1 t120 od_ q23 hroom23;have hr23 := Kd.C_take (m := (t120 : Int).toNat) hC23 (by omega);have hy23 : y121.length = (t120 : Int).toNat := (by rw [Ny121.out,List.length_take];omega);rw [← Ny121.out] at hr23;rw [← hy23] at hcut23;have HR124 := Aside0.mk hr23;have HC124 := Aside0.mk (show y121.length ≤ c1 from by omega);clear hr23 hC23 hroom23 hi023 hsz23;have KY23 := Aside0.mk hy23;clear hy23;replace q23 := eq_true q23))
       repeat (go_quiet (first | (go_at_call 25;(with_reducible refine (nat_cut_read.calls (l' := y116) (hl' := Ny116.out) k _ _ l0 t115 _ ?side1 ?side2 A3.out).mono ?_);(case side1 => exact ca_ HR0.out);(case side2 => exact HC0.out);rintro e w' ⟨rfl,⟨nd,rfl⟩⟩;(try first | exact ⟨rfl,_,World.drewN_drewN _ _ _⟩ | exact ⟨rfl,_,Eq.trans (World.drewN_drewN _ _ _) (congrArg (World.drewN _) (Nat.add_assoc _ _ _))⟩);have q22 : (t115 : Int) ≤ ((l0.length : Int) : Int) := od_;obtain ⟨i022,hi022,_,hsz22,_⟩ := info_parts info43;have hroom22 : l0.length ≤ c0 := HC0.out;have hC22 : Kd.C (Kd.int .u32) _ A0 l0.length l0 := HR0.out;have hcut22 := cut_to (P := Tryd.prog) 24 43 .i64 Tryd.underlying24 hi022 A0 l0.length c0 t115 od_ q22 hroom22;have hr22 := Kd.C_take (m := (t115 : Int).toNat) hC22 (by omega);have hy22 : y116.length = (t115 : Int).toNat := (by rw [Ny116.out,List.length_take];omega);rw [← Ny116.out] at hr22;rw [← hy22] at hcut22;have HR119 := Aside0.mk hr22;have HC119 := Aside0.mk (show y116.length ≤ c0 from by omega);clear hr22 hC22 hroom22 hi022 hsz22;have KY22 := Aside0.mk hy22;clear hy22;replace q22 := eq_true q22) | (go_at_call 25;(with_reducible refine (nat_cut_read.calls (l' := y121) (hl' := Ny121.out) k _ _ l1 t120 _ ?side1 ?side2 A6.out).mono ?_);(case side1 => exact ca_ HR1.out);(case side2 => exact HC1.out);rintro e w' ⟨rfl,⟨nd,rfl⟩⟩;(try first | exact ⟨rfl,_,World.drewN_drewN _ _ _⟩ | exact ⟨rfl,_,Eq.trans (World.drewN_drewN _ _ _) (congrArg (World.drewN _) (Nat.add_assoc _ _ _))⟩);have q23 : (t120 : Int) ≤ ((l1.length : Int) : Int) := od_;obtain ⟨i023,hi023,_,hsz23,_⟩ := info_parts info43;have hroom23 : l1.length ≤ c1 := HC1.out;have hC23 : Kd.C (Kd.int .u32) _ A1 l1.length l1 := HR1.out;have hcut23 := cut_to (P := Tryd.prog) 24 43 .i64 Tryd.underlying24 hi023 A1 l1.length c1 t120 od_ q23 hroom23;have hr23 := Kd.C_take (m := (t120 : Int).toNat) hC23 (by omega);have hy23 : y121.length = (t120 : Int).toNat := (by rw [Ny121.out,List.length_take];omega);rw [← Ny121.out] at hr23;rw [← hy23] at hcut23;have HR124 := Aside0.mk hr23;have HC124 := Aside0.mk (show y121.length ≤ c1 from by omega);clear hr23 hC23 hroom23 hi023 hsz23;have KY23 := Aside0.mk hy23;clear hy23;replace q23 := eq_true q23));try go_wp2_with (first | (go_at_call 25;(with_reducible refine (nat_cut_read.calls (l' := y116) (hl' := Ny116.out) k _ _ l0 t115 _ ?side1 ?side2 A3.out).mono ?_);(case side1 => exact ca_ HR0.out);(case side2 => exact HC0.out);rintro e w' ⟨rfl,⟨nd,rfl⟩⟩;(try first | exact ⟨rfl,_,World.drewN_drewN _ _ _⟩ | exact ⟨rfl,_,Eq.trans (World.drewN_drewN _ _ _) (congrArg (World.drewN _) (Nat.add_assoc _ _ _))⟩);have q22 : (t115 : Int) ≤ ((l0.length : Int) : Int) := od_;obtain ⟨i022,hi022,_,hsz22,_⟩ := info_parts info43;have hroom22 : l0.length ≤ c0 := HC0.out;have hC22 : Kd.C (Kd.int .u32) _ A0 l0.length l0 := HR0.out;have hcut22 := cut_to (P := Tryd.prog) 24 43 .i64 Tryd.underlying24 hi022 A0 l0.length c0 t115 od_ q22 hroom22;have hr22 := Kd.C_take (m := (t115 : Int).toNat) hC22 (by omega);have hy22 : y116.length = (t115 : Int).toNat := (by rw [Ny116.out,List.length_take];omega);rw [← Ny116.out] at hr22;rw [← hy22] at hcut22;have HR119 := Aside0.mk hr22;have HC119 := Aside0.mk (show y116.length ≤ c0 from by omega);clear hr22 hC22 hroom22 hi022 hsz22;have KY22 := Aside0.mk hy22;clear hy22;replace q22 := eq_true q22) | (go_at_call 25;(with_reducible refine (nat_cut_read.calls (l' := y121) (hl' := Ny121.out) k _ _ l1 t120 _ ?side1 ?side2 A6.out).mono ?_);(case side1 => exact ca_ HR1.out);(case side2 => exact HC1.out);rintro e w' ⟨rfl,⟨nd,rfl⟩⟩;(try first | exact ⟨rfl,_,World.drewN_drewN _ _ _⟩ | exact ⟨rfl,_,Eq.trans (World.drewN_drewN _ _ _) (congrArg (World.drewN _) (Nat.add_assoc _ _ _))⟩);have q23 : (t120 : Int) ≤ ((l1.length : Int) : Int) := od_;obtain ⟨i023,hi023,_,hsz23,_⟩ := info_parts info43;have hroom23 : l1.length ≤ c1 := HC1.out;have hC23 : Kd.C (Kd.int .u32) _ A1 l1.length l1 := HR1.out;have hcut23 := cut_to (P := Tryd.prog) 24 43 .i64 Tryd.underlying24 hi023 A1 l1.length c1 t120 od_ q23 hroom23;have hr23 := Kd.C_take (m := (t120 : Int).toNat) hC23 (by omega);have hy23 : y121.length = (t120 : Int).toNat := (by rw [Ny121.out,List.length_take];omega);rw [← Ny121.out] at hr23;rw [← hy23] at hcut23;have HR124 := Aside0.mk hr23;have HC124 := Aside0.mk (show y121.length ≤ c1 from by omega);clear hr23 hC23 hroom23 hi023 hsz23;have KY23 := Aside0.mk hy23;clear hy23;replace q23 := eq_true q23)))
       go_ret
       exact ⟨by first | rfl | (simp;done) | (simp [*];done),by repeat (first | exact Drawn0.refl _ | apply Drawn0.step)⟩
    ·rw [if_neg c8] at H
     exact absurd H (by simp)
   ·rw [if_neg c7] at H
    exact absurd H (by simp)
  ·rw [if_neg c5] at H
   exact absurd H (by simp)
 ·rw [if_neg c4] at H
  exact absurd H (by simp)

/-! ### nat_over: function 24 -/
def nat_over.l0 : Nat → List (List Int) → Int → Int → Option (Bool)
 | 0,_,_,_ => none
 | k + 1,x5,x6,x7 => if x7 < x6 then (if 0 ≤ x7 then (if x7 < (x5.length : Int) then ((nat_right.f k (rd_L1 x5 x7)).bind fun t130 => (if t130 > 256 then (some true) else (nat_over.l0 k x5 x6 (wrap64 (x7 + 1))))) else (none)) else (none)) else (some false)
def nat_over.f (k : Nat) (l0 : List (List Int)) : Option (Bool) := nat_over.l0 k l0 (l0.length : Int) 0
set_option maxHeartbeats 8000000 in
set_option maxRecDepth 100000 in
theorem nat_over.calls (k : Nat) (A0 : Option Addr) (c0 : Nat) (l0 : List (List Int)) (r : Bool) (w : World) (hr0 : Kd.C (Kd.slice 43 (Kd.int .u32)) w A0 l0.length l0) (hc0 : l0.length ≤ c0) (h : nat_over.f k l0 = some r) :
  Calls Tryd.prog 24 #[.slice A0 l0.length c0] w fun e w' => e = .returned (.bool r) ∧ Drawn0 w w' := by
 have HR0 := Aside0.mk hr0
 have HC0 := Aside0.mk hc0
 clear hr0 hc0
 have H : (nat_over.l0 k l0 (l0.length : Int) 0) = some r := h
 clear h
 have H' := Aside0.mk H
 clear H
 go_enter Tryd.func24,Tryd.ntmps24
 go_wp2
 go_loopg [7] k (fun kq v7 w' => ∃ (x7_1 : Int),v7 = .int .i64 x7_1 ∧ Aside0 (nat_over.l0 kq l0 (l0.length : Int) x7_1 = some r) ∧ Aside0 (kq ≤ k) ∧ Drawn0 w w')
 case atStart => exact ⟨(0),(by first | rfl | (simp;done) | (simp [*];done)),H',⟨Nat.le_refl _⟩,by repeat (first | exact Drawn0.refl _ | apply Drawn0.step)⟩
 case round =>
  clear H'
  obtain ⟨x7_1,rfl,HA,HK1,⟨m1,rfl⟩⟩ := hrel
  cases gk with
  | zero => exact absurd HA.out (by simp [nat_over.l0])
  | succ k1 =>
   have H := HA.out
   clear HA
   simp only [nat_over.l0] at H
   by_cases c2 : x7_1 < (l0.length : Int)
   ·rw [if_pos c2] at H
    have c2b0 : decide (x7_1 < (l0.length : Int)) = true := decide_eq_true c2
    clear c2
    by_cases c3 : 0 ≤ x7_1
    ·rw [if_pos c3] at H
     have c3b0 : decide (0 ≤ x7_1) = true := decide_eq_true c3
     clear c3
     by_cases c4 : x7_1 < (l0.length : Int)
     ·rw [if_pos c4] at H
      have c4b0 : decide (x7_1 < (l0.length : Int)) = true := decide_eq_true c4
      clear c4
      replace H := Option.bind_eq_some_iff.mp H
      obtain ⟨t130,A50,H⟩ := H
      replace H : (if t130 > 256 then (some true) else (nat_over.l0 k1 l0 (l0.length : Int) (wrap64 (x7_1 + 1)))) = some r := H
      have A5 := Aside0.mk A50
      clear A50
      by_cases c6 : t130 > 256
      ·rw [if_pos c6] at H
       have c6b0 : decide (256 < t130) = true := decide_eq_true c6
       clear c6
       obtain rfl := Option.some.inj H
       have p129 : 0 ≤ (x7_1 : Int) := od_
       have q129 : x7_1 < (l0.length : Int) := od_
       obtain ⟨ad129,A129_0,c129_0,e129,hx129_0,hl129_0,hi129_0⟩ := at_L1 HR0.out x7_1 p129 q129
       cases e129
       have HR129_0 := Aside0.mk hi129_0
       have HC129_0 := Aside0.mk hl129_0
       clear hi129_0 hl129_0
       replace p129 := eq_true p129
       replace q129 := eq_true q129
       go_wp2_with (first | ((with_reducible refine gate_callee (f := 29) rfl ?_);refine goesL_ (some 12) rfl rfl Tryd.func29 (by kernel_rfl) rfl #[.slice A129_0 (rd_L1 l0 x7_1).length c129_0] rfl am_ ?_;(with_reducible refine (nat_right.calls k1 _ _ (rd_L1 l0 x7_1) t130 _ ?side1 ?side2 A5.out).mono ?_);(case side1 => exact ca_ HR129_0.out);(case side2 => exact HC129_0.out);rintro e w' ⟨rfl,⟨nd,rfl⟩⟩;refine ⟨_,rfl,?_⟩))
       go_ret
       exact ⟨by first | rfl | (simp;done) | (simp [*];done),by repeat (first | exact Drawn0.refl _ | apply Drawn0.step)⟩
      ·rw [if_neg c6] at H
       have c6b0 : decide (256 < t130) = false := decide_eq_false c6
       clear c6
       have H' := Aside0.mk H
       clear H
       have p129 : 0 ≤ (x7_1 : Int) := od_
       have q129 : x7_1 < (l0.length : Int) := od_
       obtain ⟨ad129,A129_0,c129_0,e129,hx129_0,hl129_0,hi129_0⟩ := at_L1 HR0.out x7_1 p129 q129
       cases e129
       have HR129_0 := Aside0.mk hi129_0
       have HC129_0 := Aside0.mk hl129_0
       clear hi129_0 hl129_0
       replace p129 := eq_true p129
       replace q129 := eq_true q129
       go_wp2_with (first | ((with_reducible refine gate_callee (f := 29) rfl ?_);refine goesL_ (some 12) rfl rfl Tryd.func29 (by kernel_rfl) rfl #[.slice A129_0 (rd_L1 l0 x7_1).length c129_0] rfl am_ ?_;(with_reducible refine (nat_right.calls k1 _ _ (rd_L1 l0 x7_1) t130 _ ?side1 ?side2 A5.out).mono ?_);(case side1 => exact ca_ HR129_0.out);(case side2 => exact HC129_0.out);rintro e w' ⟨rfl,⟨nd,rfl⟩⟩;refine ⟨_,rfl,?_⟩))
       go_roundg k1
       case measure => have := HK1.out;omega
       case rel => exact ⟨(wrap64 (x7_1 + 1)),(by first | rfl | (simp;done) | (simp [*];done)),H',⟨by have := HK1.out;omega⟩,by repeat (first | exact Drawn0.refl _ | apply Drawn0.step)⟩
     ·rw [if_neg c4] at H
      exact absurd H (by simp)
    ·rw [if_neg c3] at H
     exact absurd H (by simp)
   ·rw [if_neg c2] at H
    have c2b0 : decide (x7_1 < (l0.length : Int)) = false := decide_eq_false c2
    clear c2
    obtain rfl := Option.some.inj H
    go_wp2
    go_ret
    exact ⟨by first | rfl | (simp;done) | (simp [*];done),by repeat (first | exact Drawn0.refl _ | apply Drawn0.step)⟩

/-! ### bits_Add32: function 26 -/
def bits_Add32.f (a0 : Int) (a1 : Int) (a2 : Int) : Option (Int × Int) := some ((IntKind.u64.wrap ((IntKind.u64.wrap ((IntKind.u64.wrap (a0)) + (IntKind.u64.wrap (a1)))) + (IntKind.u64.wrap (a2)))) % 4294967296,((IntKind.u64.wrap ((IntKind.u64.wrap ((IntKind.u64.wrap (a0)) + (IntKind.u64.wrap (a1)))) + (IntKind.u64.wrap (a2)))) / 4294967296) % 4294967296)
set_option maxHeartbeats 8000000 in
set_option maxRecDepth 100000 in
theorem bits_Add32.calls (a0 : Int) (a1 : Int) (a2 : Int) (r1 : Int) (r2 : Int) (w : World) (h : bits_Add32.f a0 a1 a2 = some (r1,r2)) :
  Calls Tryd.prog 26 #[.int .u32 a0,.int .u32 a1,.int .u32 a2] w fun e w' => e = .returned (.tuple #[.int .u32 r1,.int .u32 r2]) ∧ Drawn0 w w' := by
 have H : (some ((IntKind.u64.wrap ((IntKind.u64.wrap ((IntKind.u64.wrap (a0)) + (IntKind.u64.wrap (a1)))) + (IntKind.u64.wrap (a2)))) % 4294967296,((IntKind.u64.wrap ((IntKind.u64.wrap ((IntKind.u64.wrap (a0)) + (IntKind.u64.wrap (a1)))) + (IntKind.u64.wrap (a2)))) / 4294967296) % 4294967296)) = some (r1,r2) := h
 clear h
 simp only [Option.some.injEq,Prod.mk.injEq] at H
 obtain ⟨rfl,rfl⟩ := H
 go_enter Tryd.func26,Tryd.ntmps26
 go_wp2
 go_ret2
 exact ⟨by first | rfl | (simp;done) | (simp [*];done),by repeat (first | exact Drawn0.refl _ | apply Drawn0.step)⟩

end Go.Proofs.YtfcenlhaepckoaaDoor.P
