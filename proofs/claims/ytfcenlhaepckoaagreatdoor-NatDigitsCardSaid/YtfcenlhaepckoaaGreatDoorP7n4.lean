-- Printed by a program of this session (wip/tools) over the kit's print: not trusted, Lean checks it.
import Derived.Test.YtfcenlhaepckoaaGreatDoorP0n4
import Derived.Test.YtfcenlhaepckoaaGreatDoorProg
import Derived.Test.YtfcenlhaepckoaaGreatDoorElibn4
import Derived.Test.YtfcenlhaepckoaaGreatDoorSqn4
import Derived.Test.YtfcenlhaepckoaaGreatDoorP1n4
import Derived.Test.YtfcenlhaepckoaaGreatDoorLibsn4
namespace Go.Proofs.YtfcenlhaepckoaaGreatDoor.P
set_option linter.all false
open Go.RowKit Go.Proofs.YtfcenlhaepckoaaGreatDoorW.PrintWords Go.Proofs.YtfcenlhaepckoaaGreatDoorW.PrintLast Go.Proofs.YtfcenlhaepckoaaGreatDoorW.PrintMore
attribute [local go_sem] max2_int min2_int max_two min_two max_three min_three max_four min_four   -- for this text's walks alone
attribute [local go_sem] cell_after
set_option linter.unusedVariables false
set_option linter.unusedSimpArgs false

/-! ### tabardlaw1_same: function 8 -/
def tabardlaw1_same.l0 : Nat → List Int → List Int → Int → Option (Bool)
 | 0,_,_,_ => none
 | k + 1,x0,x1,x5 => if x5 < (x0.length : Int) then (if 0 ≤ x5 then (if x5 < (x1.length : Int) then (if (rd x0 x5) = (rd x1 x5) then (tabardlaw1_same.l0 k x0 x1 (wrap64 (x5 + 1))) else (some false)) else (none)) else (none)) else (some true)
def tabardlaw1_same.f (k : Nat) (l0 : List Int) (l1 : List Int) : Option (Bool) := if (l0.length : Int) = (l1.length : Int) then (tabardlaw1_same.l0 k l0 l1 0) else (some false)
set_option maxHeartbeats 8000000 in
set_option maxRecDepth 100000 in
theorem tabardlaw1_same.calls (k : Nat) (A0 : Option Addr) (c0 : Nat) (l0 : List Int) (A1 : Option Addr) (c1 : Nat) (l1 : List Int) (r : Bool) (w : World) (hr0 : Kd.C (Kd.int .u32) w A0 l0.length l0) (hc0 : l0.length ≤ c0) (hr1 : Kd.C (Kd.int .u32) w A1 l1.length l1) (hc1 : l1.length ≤ c1) (h : tabardlaw1_same.f k l0 l1 = some r) :
  Calls Tryz.prog 8 #[.slice A0 l0.length c0,.slice A1 l1.length c1] w fun e w' => e = .returned (.bool r) ∧ Drawn0 w w' := by
 have HR0 := Aside0.mk hr0
 have HC0 := Aside0.mk hc0
 clear hr0 hc0
 have HR1 := Aside0.mk hr1
 have HC1 := Aside0.mk hc1
 clear hr1 hc1
 have H : (if (l0.length : Int) = (l1.length : Int) then (tabardlaw1_same.l0 k l0 l1 0) else (some false)) = some r := h
 clear h
 by_cases c3 : (l0.length : Int) = (l1.length : Int)
 ·rw [if_pos c3] at H
  have c3b0 : ((l0.length : Int) == (l1.length : Int)) = true := beq_iff_eq.mpr c3
  have c3b1 : ((l0.length : Int) != (l1.length : Int)) = false := bne_eq_false_iff_eq.mpr c3
  have c3b2 : (l0.length == l1.length) = true := by first | simpa using c3 | (simp at c3 ⊢;omega)
  clear c3
  have H' := Aside0.mk H
  clear H
  go_enter Tryz.func8,Tryz.ntmps8
  go_wp2
  repeat (go_quiet (fail);try go_wp2)
  go_loopg [5] k (fun kq v5 w' => ∃ (x5_1 : Int),v5 = .int .i64 x5_1 ∧ Aside0 (tabardlaw1_same.l0 kq l0 l1 x5_1 = some r) ∧ Aside0 (kq ≤ k) ∧ Drawn0 w w')
  case atStart => exact ⟨(0),(by first | rfl | (simp;done) | (simp [*];done)),H',⟨Nat.le_refl _⟩,by repeat (first | exact Drawn0.refl _ | apply Drawn0.step)⟩
  case round =>
   clear H'
   try clear c1
   try clear p2
   try clear c3
   try clear c3b0
   try clear c3b1
   try clear c3b2
   obtain ⟨x5_1,rfl,HA,HK1,⟨m1,rfl⟩⟩ := hrel
   cases gk with
   | zero => exact absurd HA.out (by simp [tabardlaw1_same.l0])
   | succ k1 =>
    have H := HA.out
    clear HA
    simp only [tabardlaw1_same.l0] at H
    by_cases c4 : x5_1 < (l0.length : Int)
    ·rw [if_pos c4] at H
     have c4b0 : decide (x5_1 < (l0.length : Int)) = true := decide_eq_true c4
     clear c4
     by_cases c5 : 0 ≤ x5_1
     ·rw [if_pos c5] at H
      have c5b0 : decide (0 ≤ x5_1) = true := decide_eq_true c5
      clear c5
      by_cases c6 : x5_1 < (l1.length : Int)
      ·rw [if_pos c6] at H
       have c6b0 : decide (x5_1 < (l1.length : Int)) = true := decide_eq_true c6
       clear c6
       by_cases c7 : (rd l0 x5_1) = (rd l1 x5_1)
       ·rw [if_pos c7] at H
        have c7b0 : ((rd l0 x5_1) == (rd l1 x5_1)) = true := beq_iff_eq.mpr c7
        have c7b1 : ((rd l0 x5_1) != (rd l1 x5_1)) = false := bne_eq_false_iff_eq.mpr c7
        clear c7
        have H' := Aside0.mk H
        clear H
        have p333 : 0 ≤ (x5_1 : Int) := od_
        have q333 : x5_1 < (l0.length : Int) := od_
        obtain ⟨ad333,e333,hx333_0⟩ := Kd.at_int HR0.out x5_1 p333 q333
        cases e333
        replace p333 := eq_true p333
        replace q333 := eq_true q333
        have p334 : 0 ≤ (x5_1 : Int) := od_
        have q334 : x5_1 < (l1.length : Int) := od_
        obtain ⟨ad334,e334,hx334_0⟩ := Kd.at_int HR1.out x5_1 p334 q334
        cases e334
        replace p334 := eq_true p334
        replace q334 := eq_true q334
        go_wp2
        repeat (go_quiet (fail);try go_wp2)
        go_roundg k1
        case measure => have := HK1.out;omega
        case rel => exact ⟨(wrap64 (x5_1 + 1)),(by first | rfl | (simp;done) | (simp [*];done)),H',⟨by have := HK1.out;omega⟩,by repeat (first | exact Drawn0.refl _ | apply Drawn0.step)⟩
       ·rw [if_neg c7] at H
        have c7b0 : ((rd l0 x5_1) == (rd l1 x5_1)) = false := beq_eq_false_iff_ne.mpr c7
        have c7b1 : ((rd l0 x5_1) != (rd l1 x5_1)) = true := bne_iff_ne.mpr c7
        obtain rfl := Option.some.inj H
        have p333 : 0 ≤ (x5_1 : Int) := od_
        have q333 : x5_1 < (l0.length : Int) := od_
        obtain ⟨ad333,e333,hx333_0⟩ := Kd.at_int HR0.out x5_1 p333 q333
        cases e333
        replace p333 := eq_true p333
        replace q333 := eq_true q333
        have p334 : 0 ≤ (x5_1 : Int) := od_
        have q334 : x5_1 < (l1.length : Int) := od_
        obtain ⟨ad334,e334,hx334_0⟩ := Kd.at_int HR1.out x5_1 p334 q334
        cases e334
        replace p334 := eq_true p334
        replace q334 := eq_true q334
        go_wp2
        repeat (go_quiet (fail);try go_wp2)
        go_ret
        exact ⟨by first | rfl | (simp;done) | (simp [*];done),by repeat (first | exact Drawn0.refl _ | apply Drawn0.step)⟩
      ·rw [if_neg c6] at H
       exact absurd H (by simp)
     ·rw [if_neg c5] at H
      exact absurd H (by simp)
    ·rw [if_neg c4] at H
     have c4b0 : decide (x5_1 < (l0.length : Int)) = false := decide_eq_false c4
     clear c4
     obtain rfl := Option.some.inj H
     go_wp2
     repeat (go_quiet (fail);try go_wp2)
     go_ret
     exact ⟨by first | rfl | (simp;done) | (simp [*];done),by repeat (first | exact Drawn0.refl _ | apply Drawn0.step)⟩
 ·rw [if_neg c3] at H
  have c3b0 : ((l0.length : Int) == (l1.length : Int)) = false := beq_eq_false_iff_ne.mpr c3
  have c3b1 : ((l0.length : Int) != (l1.length : Int)) = true := bne_iff_ne.mpr c3
  have c3b2 : (l0.length == l1.length) = false := by first | simpa using c3 | (simp at c3 ⊢;omega)
  obtain rfl := Option.some.inj H
  go_enter Tryz.func8,Tryz.ntmps8
  go_wp2
  repeat (go_quiet (fail);try go_wp2)
  go_ret
  exact ⟨by first | rfl | (simp;done) | (simp [*];done),by repeat (first | exact Drawn0.refl _ | apply Drawn0.step)⟩

/-! ### tabardref1_Trim: function 10 -/
def tabardref1_Trim.l0 : Nat → List Int → Int → Option (List Int)
 | 0,_,_ => none
 | k + 1,x0,x3 => if x3 > 0 then (if 0 ≤ (wrap64 (x3 - 1)) then (if (wrap64 (x3 - 1)) < (x0.length : Int) then (if (rd x0 (wrap64 (x3 - 1))) = 0 then (tabardref1_Trim.l0 k x0 (wrap64 (x3 - 1))) else ((some (([] : List Int) : List Int)).bind fun y336 => (if 0 ≤ x3 then (if x3 ≤ (x0.length : Int) then (if y336.length + (x0.take (x3 : Int).toNat).length < 35184372088832 then (some (y336 ++ (x0.take (x3 : Int).toNat))) else (none)) else (none)) else (none)))) else (none)) else (none)) else ((some (([] : List Int) : List Int)).bind fun y343 => (if 0 ≤ x3 then (if x3 ≤ (x0.length : Int) then (if y343.length + (x0.take (x3 : Int).toNat).length < 35184372088832 then (some (y343 ++ (x0.take (x3 : Int).toNat))) else (none)) else (none)) else (none)))
def tabardref1_Trim.f (k : Nat) (l0 : List Int) : Option (List Int) := tabardref1_Trim.l0 k l0 (l0.length : Int)
set_option maxHeartbeats 8000000 in
set_option maxRecDepth 100000 in
theorem tabardref1_Trim.calls (k : Nat) (A0 : Option Addr) (c0 : Nat) (l0 : List Int) (r : List Int) (w : World) (hr0 : Kd.C (Kd.int .u32) w A0 l0.length l0) (hc0 : l0.length ≤ c0) (h : tabardref1_Trim.f k l0 = some r) :
  Calls Tryz.prog 10 #[.slice A0 l0.length c0] w fun e w' => ∃ v0_ : Value,e = .returned (v0_) ∧ Kd.R (Kd.int .u32) 63 w' w.heap.size (fun _ => True) v0_ r ∧ Below w.heap.size w w' := by
 have HR0 := Aside0.mk hr0
 have HC0 := Aside0.mk hc0
 clear hr0 hc0
 have HB := Aside0.mk (Below.refl w.heap.size w)
 have H : (tabardref1_Trim.l0 k l0 (l0.length : Int)) = some r := h
 clear h
 have H' := Aside0.mk H
 clear H
 go_enter Tryz.func10,Tryz.ntmps10
 go_wp2
 go_loopg [3] k (fun kq v3 w' => ∃ (x3_1 : Int),v3 = .int .i64 x3_1 ∧ Aside0 (tabardref1_Trim.l0 kq l0 x3_1 = some r) ∧ Aside0 (kq ≤ k) ∧ Aside0 (Below w.heap.size w w'))
 case atStart => exact ⟨((l0.length : Int)),(by first | rfl | (simp;done) | (simp [*];done)),H',⟨Nat.le_refl _⟩,⟨by repeat (first | (with_reducible first | exact HB.out | apply below_alloc | apply pw_below_drewN | apply below_drew1) | exact HB.out)⟩⟩
 case round =>
  clear H'
  try clear c1
  obtain ⟨x3_1,rfl,HA,HK1,HB⟩ := hrel
  cases gk with
  | zero => exact absurd HA.out (by simp [tabardref1_Trim.l0])
  | succ k1 =>
   have H := HA.out
   clear HA
   simp only [tabardref1_Trim.l0] at H
   by_cases c2 : x3_1 > 0
   ·rw [if_pos c2] at H
    have c2b0 : decide (0 < x3_1) = true := decide_eq_true c2
    clear c2
    obtain ⟨ji3,hji3⟩ : ∃ j_ : Int,(wrap64 (x3_1 - 1)) = j_ := ⟨_,rfl⟩
    replace H : (if 0 ≤ (ji3) then (if (ji3) < (l0.length : Int) then (if (rd l0 (ji3)) = 0 then (tabardref1_Trim.l0 k1 l0 ji3) else ((some (([] : List Int) : List Int)).bind fun y336 => (if 0 ≤ x3_1 then (if x3_1 ≤ (l0.length : Int) then (if y336.length + (l0.take (x3_1 : Int).toNat).length < 35184372088832 then (some (y336 ++ (l0.take (x3_1 : Int).toNat))) else (none)) else (none)) else (none)))) else (none)) else (none)) = some r := by first | (rw [hji3] at H;exact H) | (simp only [hji3] at H ⊢;exact H)
    have hji3w : (IntKind.i64.wrap (x3_1 - 1)) = ji3 := (i64_w _).trans hji3
    by_cases c4 : 0 ≤ (ji3)
    ·rw [if_pos c4] at H
     have c4b0 : decide (0 ≤ (ji3)) = true := decide_eq_true c4
     clear c4
     by_cases c5 : (ji3) < (l0.length : Int)
     ·rw [if_pos c5] at H
      have c5b0 : decide ((ji3) < (l0.length : Int)) = true := decide_eq_true c5
      clear c5
      by_cases c6 : (rd l0 (ji3)) = 0
      ·rw [if_pos c6] at H
       have c6b0 : ((rd l0 (ji3)) == 0) = true := beq_iff_eq.mpr c6
       have c6b1 : ((rd l0 (ji3)) != 0) = false := bne_eq_false_iff_eq.mpr c6
       clear c6
       have H' := Aside0.mk H
       clear H
       have p335 : 0 ≤ ((ji3) : Int) := od_
       have q335 : (ji3) < (l0.length : Int) := od_
       obtain ⟨ad335,e335,hx335_0⟩ := Kd.at_int HR0.out (ji3) p335 q335
       cases e335
       replace hx335_0 := (HB.out.cell (World.block_lt_of_cell? w _ hx335_0)).trans hx335_0
       replace p335 := eq_true p335
       replace q335 := eq_true q335
       go_wp2
       (first | go_roundg k1 | (simp only [← hji3];go_roundg k1))
       case measure => have := HK1.out;omega
       case rel => exact ⟨(ji3),(by first | rfl | (simp;done) | (simp only [← hji3] <;> (first | rfl | simp)) | (simp [*];done)),(by first | exact H' | (rw [hji3];exact H')),⟨by have := HK1.out;omega⟩,⟨by repeat (first | (with_reducible first | exact HB.out | apply below_alloc | apply pw_below_drewN | apply below_drew1) | exact HB.out)⟩⟩
      ·rw [if_neg c6] at H
       have c6b0 : ((rd l0 (ji3)) == 0) = false := beq_eq_false_iff_ne.mpr c6
       have c6b1 : ((rd l0 (ji3)) != 0) = true := bne_iff_ne.mpr c6
       obtain ⟨y336,hy336⟩ : ∃ y_ : List Int,y_ = (([] : List Int)) := ⟨_,rfl⟩
       replace H : (if 0 ≤ x3_1 then (if x3_1 ≤ (l0.length : Int) then (if y336.length + (l0.take (x3_1 : Int).toNat).length < 35184372088832 then (some (y336 ++ (l0.take (x3_1 : Int).toNat))) else (none)) else (none)) else (none)) = some r := by first | (rw [hy336];with_reducible exact H) | (have H2_ := (Option.bind_some _ _).symm.trans H;rw [hy336];with_reducible exact H2_) | (have H2_ := (Option.bind_some _ _).symm.trans H;with_reducible exact H2_) | with_reducible exact H | (rw [hy336];exact H) | exact H
       have Ny336 := Aside0.mk hy336
       clear hy336
       by_cases c7 : 0 ≤ x3_1
       ·rw [if_pos c7] at H
        have c7b0 := eq_true c7
        have c7b1 : decide (0 ≤ x3_1) = true := decide_eq_true c7
        clear c7
        by_cases c8 : x3_1 ≤ (l0.length : Int)
        ·rw [if_pos c8] at H
         have c8b0 := eq_true c8
         have c8b1 : decide (x3_1 ≤ (l0.length : Int)) = true := decide_eq_true c8
         clear c8
         by_cases c9 : y336.length + (l0.take (x3_1 : Int).toNat).length < 35184372088832
         ·rw [if_pos c9] at H
          have LMc9 := Aside0.mk c9
          clear c9
          obtain ⟨y340,hy340⟩ : ∃ y_ : List Int,y_ = (y336 ++ (l0.take (x3_1 : Int).toNat)) := ⟨_,rfl⟩
          replace H : (some y340) = some r := by first | (rw [hy340];with_reducible exact H) | (have H2_ := (Option.bind_some _ _).symm.trans H;rw [hy340];with_reducible exact H2_) | (have H2_ := (Option.bind_some _ _).symm.trans H;with_reducible exact H2_) | with_reducible exact H | (rw [hy340];exact H) | exact H
          have Ny340 := Aside0.mk hy340
          clear hy340
          obtain rfl := Option.some.inj H
          have p335 : 0 ≤ ((ji3) : Int) := od_
          have q335 : (ji3) < (l0.length : Int) := od_
          obtain ⟨ad335,e335,hx335_0⟩ := Kd.at_int HR0.out (ji3) p335 q335
          cases e335
          replace hx335_0 := (HB.out.cell (World.block_lt_of_cell? w _ hx335_0)).trans hx335_0
          replace p335 := eq_true p335
          replace q335 := eq_true q335
          go_wp2_with (first | ((with_reducible refine gate_dst (N := 18) rfl ?_);refine Kd.R_lit (Kd.int .u32) _ 63 ?hg (N := 18) ?hd (xs := ([] : List Int)) (inner := []) (ok := fun _ => True) (okp := fun _ => True) ?hr ?hp (fun _ hk => hk) trivial (Below.refl _ _) (Nat.le_refl _) (by simp) ?_;(case hd => rfl);(case hg => rfl);(case hr => first | (go_simp;done) | (go_simp;rfl));(case hp => exact (Reps.none _ _));intro v337 w10 ho11 hb hg_ hnew_;clear hg_ hnew_;(first | rw [← Ny336.out] at ho11 | (simp only [Int.reduceToNat] at ho11;rw [← Ny336.out] at ho11));have HO338 := Aside0.mk (Kd.R_lower ho11 (below_size bl_));replace HB := Aside0.mk (below_step bl_ hb);clear hb ho11;obtain ⟨i012,hi012,_,hsz12,_⟩ := info_parts info63;obtain ⟨hcut12,hA12,hC12⟩ := print_take_of (P := Tryz.prog) (Value.int .u32) 0 22 63 .i64 Tryz.underlying22 hi012 hsz12 (some ad335) c0 l0 x3_1 od_ od_ HC0.out;have HR339 := Aside0.mk (Kd.C_of_reads (h1 := fun _ => rfl) (hA12 _ (Kd.reads_of_C HR0.out)));have HC339 := Aside0.mk hC12;clear hA12 hC12 hi012 hsz12) | ((with_reducible refine gate_builtin (b := .append) (xs := #[.tmp 18,.tmp 21]) rfl ?_);at_builtin;refine Kd.R_append_rows (Kd.int .u32) (w0 := w) w.heap.size rfl (.tmp 18) (.tmp 21) 22 63 (.int .u32 0) 4 rfl Tryz.underlying22 info63 rfl (by decide) (by omega) v337 y336 (l0.take (x3_1 : Int).toNat) _ _ _ (fun _ => True) (fun _ => False) rfl rfl ?aO ?aR (fun _ _ h => h) (fun _ h => h.elim) ?aF ?aB ?aS ?aL ?_;(case aR => first | (refine readsrow_len (show (l0.take (x3_1 : Int).toNat).length = x3_1.toNat from (by rw [List.length_take];have h_ : (x3_1 : Int) ≤ (l0.length : Int) := od_;omega)) ?_;exact ca_ (Kd.C_below HR339.out HB.out);done) | (exact ca_ (Kd.C_below HR339.out HB.out)));(case aB => exact bl_);(case aF => exact (fun _ _ => trivial));(case aO => exact (ra_ HO338.out));(case aS => exact (below_size bl_));(case aL => have := LMc9.out;have hlx_ := (show (l0.take (x3_1 : Int).toNat).length = x3_1.toNat from (by rw [List.length_take];have h_ : (x3_1 : Int) ≤ (l0.length : Int) := od_;omega));omega);intro v341 w13 ho hb hg hat;rw [← Ny340.out] at ho;replace HB := Aside0.mk (hb);have HO342 := Aside0.mk (ho);clear HO338;clear ho hb hg hat))
          go_ret
          exact ⟨_,by first | rfl | (simp [errW_none,errW_some] <;> rfl) | (simp only [← hji3];first | rfl | (simp [errW_none,errW_some] <;> rfl)) | (simp [*,errW_none,errW_some] <;> rfl),by (with_reducible repeat (first | apply Kd.R_alloc | apply Kd.R_drewN | apply Kd.R_drew));exact HO342.out,by repeat (first | (with_reducible first | exact HB.out | apply below_alloc | apply pw_below_drewN | apply below_drew1) | exact HB.out)⟩
         ·rw [if_neg c9] at H
          exact absurd H (by simp)
        ·rw [if_neg c8] at H
         exact absurd H (by simp)
       ·rw [if_neg c7] at H
        exact absurd H (by simp)
     ·rw [if_neg c5] at H
      exact absurd H (by simp)
    ·rw [if_neg c4] at H
     exact absurd H (by simp)
   ·rw [if_neg c2] at H
    have c2b0 : decide (0 < x3_1) = false := decide_eq_false c2
    clear c2
    obtain ⟨y343,hy343⟩ : ∃ y_ : List Int,y_ = (([] : List Int)) := ⟨_,rfl⟩
    replace H : (if 0 ≤ x3_1 then (if x3_1 ≤ (l0.length : Int) then (if y343.length + (l0.take (x3_1 : Int).toNat).length < 35184372088832 then (some (y343 ++ (l0.take (x3_1 : Int).toNat))) else (none)) else (none)) else (none)) = some r := by first | (rw [hy343];with_reducible exact H) | (have H2_ := (Option.bind_some _ _).symm.trans H;rw [hy343];with_reducible exact H2_) | (have H2_ := (Option.bind_some _ _).symm.trans H;with_reducible exact H2_) | with_reducible exact H | (rw [hy343];exact H) | exact H
    have Ny343 := Aside0.mk hy343
    clear hy343
    by_cases c14 : 0 ≤ x3_1
    ·rw [if_pos c14] at H
     have c14b0 := eq_true c14
     have c14b1 : decide (0 ≤ x3_1) = true := decide_eq_true c14
     clear c14
     by_cases c15 : x3_1 ≤ (l0.length : Int)
     ·rw [if_pos c15] at H
      have c15b0 := eq_true c15
      have c15b1 : decide (x3_1 ≤ (l0.length : Int)) = true := decide_eq_true c15
      clear c15
      by_cases c16 : y343.length + (l0.take (x3_1 : Int).toNat).length < 35184372088832
      ·rw [if_pos c16] at H
       have LMc16 := Aside0.mk c16
       clear c16
       obtain ⟨y347,hy347⟩ : ∃ y_ : List Int,y_ = (y343 ++ (l0.take (x3_1 : Int).toNat)) := ⟨_,rfl⟩
       replace H : (some y347) = some r := by first | (rw [hy347];with_reducible exact H) | (have H2_ := (Option.bind_some _ _).symm.trans H;rw [hy347];with_reducible exact H2_) | (have H2_ := (Option.bind_some _ _).symm.trans H;with_reducible exact H2_) | with_reducible exact H | (rw [hy347];exact H) | exact H
       have Ny347 := Aside0.mk hy347
       clear hy347
       obtain rfl := Option.some.inj H
       go_wp2_with (first | ((with_reducible refine gate_dst (N := 18) rfl ?_);refine Kd.R_lit (Kd.int .u32) _ 63 ?hg (N := 18) ?hd (xs := ([] : List Int)) (inner := []) (ok := fun _ => True) (okp := fun _ => True) ?hr ?hp (fun _ hk => hk) trivial (Below.refl _ _) (Nat.le_refl _) (by simp) ?_;(case hd => rfl);(case hg => rfl);(case hr => first | (go_simp;done) | (go_simp;rfl));(case hp => exact (Reps.none _ _));intro v344 w17 ho18 hb hg_ hnew_;clear hg_ hnew_;(first | rw [← Ny343.out] at ho18 | (simp only [Int.reduceToNat] at ho18;rw [← Ny343.out] at ho18));have HO345 := Aside0.mk (Kd.R_lower ho18 (below_size bl_));replace HB := Aside0.mk (below_step bl_ hb);clear hb ho18;obtain ⟨i019,hi019,_,hsz19,_⟩ := info_parts info63;obtain ⟨hcut19,hA19,hC19⟩ := print_take_of (P := Tryz.prog) (Value.int .u32) 0 22 63 .i64 Tryz.underlying22 hi019 hsz19 A0 c0 l0 x3_1 od_ od_ HC0.out;have HR346 := Aside0.mk (Kd.C_of_reads (h1 := fun _ => rfl) (hA19 _ (Kd.reads_of_C HR0.out)));have HC346 := Aside0.mk hC19;clear hA19 hC19 hi019 hsz19) | ((with_reducible refine gate_builtin (b := .append) (xs := #[.tmp 18,.tmp 21]) rfl ?_);at_builtin;refine Kd.R_append_rows (Kd.int .u32) (w0 := w) w.heap.size rfl (.tmp 18) (.tmp 21) 22 63 (.int .u32 0) 4 rfl Tryz.underlying22 info63 rfl (by decide) (by omega) v344 y343 (l0.take (x3_1 : Int).toNat) _ _ _ (fun _ => True) (fun _ => False) rfl rfl ?aO ?aR (fun _ _ h => h) (fun _ h => h.elim) ?aF ?aB ?aS ?aL ?_;(case aR => first | (refine readsrow_len (show (l0.take (x3_1 : Int).toNat).length = x3_1.toNat from (by rw [List.length_take];have h_ : (x3_1 : Int) ≤ (l0.length : Int) := od_;omega)) ?_;exact ca_ (Kd.C_below HR346.out HB.out);done) | (exact ca_ (Kd.C_below HR346.out HB.out)));(case aB => exact bl_);(case aF => exact (fun _ _ => trivial));(case aO => exact (ra_ HO345.out));(case aS => exact (below_size bl_));(case aL => have := LMc16.out;have hlx_ := (show (l0.take (x3_1 : Int).toNat).length = x3_1.toNat from (by rw [List.length_take];have h_ : (x3_1 : Int) ≤ (l0.length : Int) := od_;omega));omega);intro v348 w20 ho hb hg hat;rw [← Ny347.out] at ho;replace HB := Aside0.mk (hb);have HO349 := Aside0.mk (ho);clear HO345;clear ho hb hg hat))
       go_ret
       exact ⟨_,by first | rfl | (simp [errW_none,errW_some] <;> rfl) | (simp [*,errW_none,errW_some] <;> rfl),by (with_reducible repeat (first | apply Kd.R_alloc | apply Kd.R_drewN | apply Kd.R_drew));exact HO349.out,by repeat (first | (with_reducible first | exact HB.out | apply below_alloc | apply pw_below_drewN | apply below_drew1) | exact HB.out)⟩
      ·rw [if_neg c16] at H
       exact absurd H (by simp)
     ·rw [if_neg c15] at H
      exact absurd H (by simp)
    ·rw [if_neg c14] at H
     exact absurd H (by simp)

/-! ### tabardref1_Big: function 43 -/
def tabardref1_Big.f (k : Nat) (l0 : List Int) : Option (Bool) := (tabardref1_Trim.f k l0).bind fun t374 => (some (decide ((t374.length : Int) > 256)))
set_option maxHeartbeats 8000000 in
set_option maxRecDepth 100000 in
theorem tabardref1_Big.calls (k : Nat) (A0 : Option Addr) (c0 : Nat) (l0 : List Int) (r : Bool) (w : World) (hr0 : Kd.C (Kd.int .u32) w A0 l0.length l0) (hc0 : l0.length ≤ c0) (h : tabardref1_Big.f k l0 = some r) :
  Calls Tryz.prog 43 #[.slice A0 l0.length c0] w fun e w' => e = .returned (.bool r) ∧ Below w.heap.size w w' := by
 have HR0 := Aside0.mk hr0
 have HC0 := Aside0.mk hc0
 clear hr0 hc0
 have HB := Aside0.mk (Below.refl w.heap.size w)
 have H : ((tabardref1_Trim.f k l0).bind fun t374 => (some (decide ((t374.length : Int) > 256)))) = some r := h
 clear h
 replace H := Option.bind_eq_some_iff.mp H
 obtain ⟨t374,A20,H⟩ := H
 replace H : (some (decide ((t374.length : Int) > 256))) = some r := H
 have A2 := Aside0.mk A20
 clear A20
 obtain rfl := Option.some.inj H
 go_enter Tryz.func43,Tryz.ntmps43
 go_wp2_with (first | ((with_reducible refine gate_callee (f := 10) rfl ?_);refine goesL_ (some 4) rfl rfl Tryz.func10 (by kernel_rfl) rfl #[.slice A0 l0.length c0] rfl am_ ?_;(with_reducible refine (tabardref1_Trim.calls k _ _ l0 t374 _ ?side1 ?side2 A2.out).mono ?_);(case side1 => exact ca_ HR0.out);(case side2 => exact HC0.out);rintro e w3 ⟨v375,rfl,ho0,hb⟩;refine ⟨_,rfl,?_⟩;have HO376 := Aside0.mk (Kd.R_lower ho0 (below_size bl_));replace HB := Aside0.mk (below_step bl_ hb);(try clear hb);(try clear hb2);(try clear hk);(try clear hi);(try clear ho0);obtain ⟨Ao4,co4,eo4⟩ := Kd.R_slice HO376.out;subst eo4))
 go_ret
 exact ⟨by first | rfl | (simp [errW_none,errW_some] <;> rfl) | (simp [*,errW_none,errW_some] <;> rfl),by repeat (first | (with_reducible first | exact HB.out | apply below_alloc | apply pw_below_drewN | apply below_drew1) | exact HB.out)⟩

end Go.Proofs.YtfcenlhaepckoaaGreatDoor.P
