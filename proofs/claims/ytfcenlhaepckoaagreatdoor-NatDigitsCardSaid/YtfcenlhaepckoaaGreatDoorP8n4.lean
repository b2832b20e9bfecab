-- Printed by a program of this session (wip/tools) over the kit's print: not trusted, Lean checks it.
import Derived.Test.YtfcenlhaepckoaaGreatDoorP0n4
import Derived.Test.YtfcenlhaepckoaaGreatDoorProg
import Derived.Test.YtfcenlhaepckoaaGreatDoorElibn4
import Derived.Test.YtfcenlhaepckoaaGreatDoorSqn4
import Derived.Test.YtfcenlhaepckoaaGreatDoorP7n4
import Derived.Test.YtfcenlhaepckoaaGreatDoorLibsn4
namespace Go.Proofs.YtfcenlhaepckoaaGreatDoor.P
set_option linter.all false
open Go.RowKit Go.Proofs.YtfcenlhaepckoaaGreatDoorW.PrintWords Go.Proofs.YtfcenlhaepckoaaGreatDoorW.PrintLast Go.Proofs.YtfcenlhaepckoaaGreatDoorW.PrintMore
attribute [local go_sem] max2_int min2_int max_two min_two max_three min_three max_four min_four   -- for this text's walks alone
attribute [local go_sem] cell_after
set_option linter.unusedVariables false
set_option linter.unusedSimpArgs false

/-! ### tabardref1_limb: function 60 -/
def tabardref1_limb.f (l0 : List Int) (a1 : Int) : Option (Int) := if a1 < 0 then (some 0) else (if a1 ≥ (l0.length : Int) then (some 0) else (if 0 ≤ a1 then (if a1 < (l0.length : Int) then (some (IntKind.u64.wrap (rd l0 a1))) else (none)) else (none)))
set_option maxHeartbeats 8000000 in
set_option maxRecDepth 100000 in
theorem tabardref1_limb.calls (A0 : Option Addr) (c0 : Nat) (l0 : List Int) (a1 : Int) (r : Int) (w : World) (hr0 : Kd.C (Kd.int .u32) w A0 l0.length l0) (hc0 : l0.length ≤ c0) (h : tabardref1_limb.f l0 a1 = some r) :
  Calls Tryz.prog 60 #[.slice A0 l0.length c0,.int .i64 a1] w fun e w' => e = .returned (.int .u64 r) ∧ Drawn0 w w' := by
 have HR0 := Aside0.mk hr0
 have HC0 := Aside0.mk hc0
 clear hr0 hc0
 have H : (if a1 < 0 then (some 0) else (if a1 ≥ (l0.length : Int) then (some 0) else (if 0 ≤ a1 then (if a1 < (l0.length : Int) then (some (IntKind.u64.wrap (rd l0 a1))) else (none)) else (none)))) = some r := h
 clear h
 by_cases c3 : a1 < 0
 ·rw [if_pos c3] at H
  have c3b0 : decide (a1 < 0) = true := decide_eq_true c3
  clear c3
  obtain rfl := Option.some.inj H
  go_enter Tryz.func60,Tryz.ntmps60
  go_wp2
  go_ret
  exact ⟨by first | rfl | (simp;done) | (simp [*];done),by repeat (first | exact Drawn0.refl _ | apply Drawn0.step)⟩
 ·rw [if_neg c3] at H
  have c3b0 : decide (a1 < 0) = false := decide_eq_false c3
  clear c3
  by_cases c4 : a1 ≥ (l0.length : Int)
  ·rw [if_pos c4] at H
   have c4b0 : decide ((l0.length : Int) ≤ a1) = true := decide_eq_true c4
   clear c4
   obtain rfl := Option.some.inj H
   go_enter Tryz.func60,Tryz.ntmps60
   go_wp2
   go_ret
   exact ⟨by first | rfl | (simp;done) | (simp [*];done),by repeat (first | exact Drawn0.refl _ | apply Drawn0.step)⟩
  ·rw [if_neg c4] at H
   have c4b0 : decide ((l0.length : Int) ≤ a1) = false := decide_eq_false c4
   clear c4
   by_cases c5 : 0 ≤ a1
   ·rw [if_pos c5] at H
    have c5b0 : decide (0 ≤ a1) = true := decide_eq_true c5
    clear c5
    by_cases c6 : a1 < (l0.length : Int)
    ·rw [if_pos c6] at H
     have c6b0 : decide (a1 < (l0.length : Int)) = true := decide_eq_true c6
     clear c6
     obtain rfl := Option.some.inj H
     have p378 : 0 ≤ (a1 : Int) := od_
     have q378 : a1 < (l0.length : Int) := od_
     obtain ⟨ad378,e378,hx378_0⟩ := Kd.at_int HR0.out a1 p378 q378
     cases e378
     replace p378 := eq_true p378
     replace q378 := eq_true q378
     go_enter Tryz.func60,Tryz.ntmps60
     go_wp2
     go_ret
     exact ⟨by first | rfl | (simp;done) | (simp [*];done),by repeat (first | exact Drawn0.refl _ | apply Drawn0.step)⟩
    ·rw [if_neg c6] at H
     exact absurd H (by simp)
   ·rw [if_neg c5] at H
    exact absurd H (by simp)

/-! ### tabardref1_Plus: function 45 -/
mutual
def tabardref1_Plus.l0 : Nat → List Int → List Int → List Int → Int → Int → Option (List Int)
 | 0,_,_,_,_,_ => none
 | k + 1,x0,x1,x5,x6,x7 => if x7 < (x0.length : Int) then (tabardref1_Plus.j1 k x0 x1 x5 x6 x7 true) else (tabardref1_Plus.j1 k x0 x1 x5 x6 x7 (decide (x7 < (x1.length : Int))))
def tabardref1_Plus.j1 : Nat → List Int → List Int → List Int → Int → Int → Bool → Option (List Int)
 | 0,_,_,_,_,_,_ => none
 | k + 1,x0,x1,x5,x6,x7,x18 => if x18 = true then ((tabardref1_limb.f x0 x7).bind fun t379 => ((tabardref1_limb.f x1 x7).bind fun t380 => (if x5.length < 35184372088832 then (tabardref1_Plus.l0 k x0 x1 (x5 ++ [(Int.tmod (IntKind.u64.wrap ((IntKind.u64.wrap (t379 + t380)) + x6)) 4294967296) % 4294967296]) ((IntKind.u64.wrap ((IntKind.u64.wrap (t379 + t380)) + x6)) / 4294967296) (wrap64 (x7 + 1))) else (none)))) else (if x5.length < 35184372088832 then ((tabardref1_Trim.f k (x5 ++ [(x6) % 4294967296])).bind fun t387 => (some t387)) else (none))
end
def tabardref1_Plus.f (k : Nat) (l0 : List Int) (l1 : List Int) : Option (List Int) := tabardref1_Plus.l0 k l0 l1 ([] : List Int) 0 0
set_option maxHeartbeats 8000000 in
set_option maxRecDepth 100000 in
theorem tabardref1_Plus.calls (k : Nat) (A0 : Option Addr) (c0 : Nat) (l0 : List Int) (A1 : Option Addr) (c1 : Nat) (l1 : List Int) (r : List Int) (w : World) (hr0 : Kd.C (Kd.int .u32) w A0 l0.length l0) (hc0 : l0.length ≤ c0) (hr1 : Kd.C (Kd.int .u32) w A1 l1.length l1) (hc1 : l1.length ≤ c1) (h : tabardref1_Plus.f k l0 l1 = some r) :
  Calls Tryz.prog 45 #[.slice A0 l0.length c0,.slice A1 l1.length c1] w fun e w' => ∃ v0_ : Value,e = .returned (v0_) ∧ Kd.R (Kd.int .u32) 63 w' w.heap.size (fun _ => True) v0_ r ∧ Below w.heap.size w w' := by
 have HR0 := Aside0.mk hr0
 have HC0 := Aside0.mk hc0
 clear hr0 hc0
 have HR1 := Aside0.mk hr1
 have HC1 := Aside0.mk hc1
 clear hr1 hc1
 have HB := Aside0.mk (Below.refl w.heap.size w)
 have H : (tabardref1_Plus.l0 k l0 l1 ([] : List Int) 0 0) = some r := h
 clear h
 have H' := Aside0.mk H
 clear H
 go_enter Tryz.func45,Tryz.ntmps45
 go_wp2
 go_loopg [5,6,7] k (fun kq v5 v6 v7 w' => ∃ (x5_1 : List Int) (x6_1 : Int) (x7_1 : Int),v6 = .int .u64 x6_1 ∧ v7 = .int .i64 x7_1 ∧ Aside0 (tabardref1_Plus.l0 kq l0 l1 x5_1 x6_1 x7_1 = some r) ∧ Aside0 (kq ≤ k) ∧ Aside0 (Kd.R (Kd.int .u32) 63 w' w.heap.size (fun _ => True) v5 x5_1) ∧ Aside0 (Below w.heap.size w w'))
 case atStart => exact ⟨(([] : List Int)),(0),(0),(by first | rfl | (simp;done) | (simp [*];done)),(by first | rfl | (simp;done) | (simp [*];done)),H',⟨Nat.le_refl _⟩,⟨by first | exact Kd.R_nil _ _ _ _ _ | exact Kd.N_nil _ _ _ _ _ | exact Kd.V_nil _ _ _ _ _ | exact Kd.Q_nil _ _ _ _ _ | exact Kd.S_nil _ _ _ _ _⟩,⟨by repeat (first | (with_reducible first | exact HB.out | apply below_alloc | apply pw_below_drewN | apply below_drew1) | exact HB.out)⟩⟩
 case round =>
  clear H'
  try clear c1
  try clear p2
  obtain ⟨x5_1,x6_1,x7_1,rfl,rfl,HA,HK1,HO_5,HB⟩ := hrel
  cases gk with
  | zero => exact absurd HA.out (by simp [tabardref1_Plus.l0])
  | succ k1 =>
   have H := HA.out
   clear HA
   simp only [tabardref1_Plus.l0] at H
   have HC3 := Aside0.mk H
   clear H
   go_upto_region 4 with (fail)
   go_cut [18] (fun v18 wc => ∃ (kq : Nat) (x18_2 : Bool),v18 = .bool x18_2 ∧ Aside0 (tabardref1_Plus.j1 kq l0 l1 x5_1 x6_1 x7_1 x18_2 = some r) ∧ Aside0 (kq ≤ k1) ∧ Aside0 (Kd.R (Kd.int .u32) 63 wc w.heap.size (fun _ => True) u5 x5_1) ∧ Aside0 (Below w.heap.size w wc))
   case first =>
    have H := HC3.out
    clear HC3
    by_cases c4 : x7_1 < (l0.length : Int)
    ·rw [if_pos c4] at H
     have c4b0 : decide (x7_1 < (l0.length : Int)) = true := decide_eq_true c4
     clear c4
     (first | rw [c4b0] | (simp only [i64_w,i32_w];rw [c4b0]) | rw [c4b1] | (simp only [i64_w,i32_w];rw [c4b1]) | skip)
     have H' := Aside0.mk H
     clear H
     go_wp2
     go_meet
     case rel => exact ⟨_,(true),(by first | rfl | (simp;done) | (simp [*];done)),H',⟨by have := HK1.out;first | omega | exact Nat.le_refl _⟩,⟨by (with_reducible repeat (first | apply Kd.R_alloc | apply Kd.R_drewN | apply Kd.R_drew));exact HO_5.out⟩,⟨by repeat (first | (with_reducible first | exact HB.out | apply below_alloc | apply pw_below_drewN | apply below_drew1) | exact HB.out)⟩⟩
    ·rw [if_neg c4] at H
     have c4b0 : decide (x7_1 < (l0.length : Int)) = false := decide_eq_false c4
     clear c4
     (first | rw [c4b0] | (simp only [i64_w,i32_w];rw [c4b0]) | rw [c4b1] | (simp only [i64_w,i32_w];rw [c4b1]) | skip)
     have H' := Aside0.mk H
     clear H
     go_wp2
     go_meet
     case rel => exact ⟨_,(decide (x7_1 < (l1.length : Int))),(by first | rfl | (simp;done) | (simp [*];done)),H',⟨by have := HK1.out;first | omega | exact Nat.le_refl _⟩,⟨by (with_reducible repeat (first | apply Kd.R_alloc | apply Kd.R_drewN | apply Kd.R_drew));exact HO_5.out⟩,⟨by repeat (first | (with_reducible first | exact HB.out | apply below_alloc | apply pw_below_drewN | apply below_drew1) | exact HB.out)⟩⟩
   case rest =>
    clear HC3
    try clear c1
    try clear p2
    try clear c4
    try clear c4b0
    try clear c4b1
    try clear p2
    obtain ⟨kq,x18_2,rfl,HA,HJ2,HO_5,HB⟩ := hcut
    cases kq with
    | zero => exact absurd HA.out (by simp [tabardref1_Plus.j1])
    | succ kj2 =>
     have H := HA.out
     clear HA
     simp only [tabardref1_Plus.j1] at H
     by_cases c5 : x18_2 = true
     ·subst c5
      have H1 : ((tabardref1_limb.f l0 x7_1).bind fun t379 => ((tabardref1_limb.f l1 x7_1).bind fun t380 => (if x5_1.length < 35184372088832 then (tabardref1_Plus.l0 kj2 l0 l1 (x5_1 ++ [(Int.tmod (IntKind.u64.wrap ((IntKind.u64.wrap (t379 + t380)) + x6_1)) 4294967296) % 4294967296]) ((IntKind.u64.wrap ((IntKind.u64.wrap (t379 + t380)) + x6_1)) / 4294967296) (wrap64 (x7_1 + 1))) else (none)))) = some r := by rw [if_pos rfl] at H;exact H
      clear H
      have H := H1
      clear H1
      replace H := Option.bind_eq_some_iff.mp H
      obtain ⟨t379,A60,H⟩ := H
      replace H : ((tabardref1_limb.f l1 x7_1).bind fun t380 => (if x5_1.length < 35184372088832 then (tabardref1_Plus.l0 kj2 l0 l1 (x5_1 ++ [(Int.tmod (IntKind.u64.wrap ((IntKind.u64.wrap (t379 + t380)) + x6_1)) 4294967296) % 4294967296]) ((IntKind.u64.wrap ((IntKind.u64.wrap (t379 + t380)) + x6_1)) / 4294967296) (wrap64 (x7_1 + 1))) else (none))) = some r := H
      have A6 := Aside0.mk A60
      clear A60
      replace H := Option.bind_eq_some_iff.mp H
      obtain ⟨t380,A70,H⟩ := H
      replace H : (if x5_1.length < 35184372088832 then (tabardref1_Plus.l0 kj2 l0 l1 (x5_1 ++ [(Int.tmod (IntKind.u64.wrap ((IntKind.u64.wrap (t379 + t380)) + x6_1)) 4294967296) % 4294967296]) ((IntKind.u64.wrap ((IntKind.u64.wrap (t379 + t380)) + x6_1)) / 4294967296) (wrap64 (x7_1 + 1))) else (none)) = some r := H
      have A7 := Aside0.mk A70
      clear A70
      by_cases c8 : x5_1.length < 35184372088832
      ·rw [if_pos c8] at H
       have LMc8 := Aside0.mk c8
       clear c8
       obtain ⟨y381,hy381⟩ : ∃ y_ : List Int,y_ = (x5_1 ++ [(Int.tmod (IntKind.u64.wrap ((IntKind.u64.wrap (t379 + t380)) + x6_1)) 4294967296) % 4294967296]) := ⟨_,rfl⟩
       replace H : (tabardref1_Plus.l0 kj2 l0 l1 y381 ((IntKind.u64.wrap ((IntKind.u64.wrap (t379 + t380)) + x6_1)) / 4294967296) (wrap64 (x7_1 + 1))) = some r := by first | (rw [hy381];with_reducible exact H) | (have H2_ := (Option.bind_some _ _).symm.trans H;rw [hy381];with_reducible exact H2_) | (have H2_ := (Option.bind_some _ _).symm.trans H;with_reducible exact H2_) | with_reducible exact H | (rw [hy381];exact H) | exact H
       have Ny381 := Aside0.mk hy381
       clear hy381
       have H' := Aside0.mk H
       clear H
       go_wp2_with (first | ((with_reducible refine gate_callee (f := 60) rfl ?_);refine goesL_ (some 23) rfl rfl Tryz.func60 (by kernel_rfl) rfl #[.slice A0 l0.length c0,.int .i64 x7_1] rfl am_ ?_;(with_reducible refine (tabardref1_limb.calls _ _ l0 x7_1 t379 _ ?side1 ?side2 A6.out).mono ?_);(case side1 => exact ca_ (Kd.C_below HR0.out HB.out));(case side2 => exact HC0.out);rintro e w' ⟨rfl,⟨nd,rfl⟩⟩;refine ⟨_,rfl,?_⟩) | ((with_reducible refine gate_callee (f := 60) rfl ?_);refine goesL_ (some 26) rfl rfl Tryz.func60 (by kernel_rfl) rfl #[.slice A1 l1.length c1,.int .i64 x7_1] rfl am_ ?_;(with_reducible refine (tabardref1_limb.calls _ _ l1 x7_1 t380 _ ?side1 ?side2 A7.out).mono ?_);(case side1 => exact ca_ (Kd.C_below HR1.out bl_));(case side2 => exact HC1.out);rintro e w' ⟨rfl,⟨nd,rfl⟩⟩;refine ⟨_,rfl,?_⟩) | ((with_reducible refine gate_builtin (b := .append) (xs := #[.tmp 30,.tmp 34]) rfl ?_);(try (refine gate_guard (by rfl) ?_;dsimp only));at_builtin;refine Kd.R_append (Kd.int .u32) (w0 := w) w.heap.size rfl (.tmp 30) (.tmp 34) 22 63 (.int .u32 0) 4 rfl Tryz.underlying22 info63 rfl (by decide) (by omega) u5 x5_1 ((Int.tmod (IntKind.u64.wrap ((IntKind.u64.wrap (t379 + t380)) + x6_1)) 4294967296) % 4294967296) [.int .u32 ((Int.tmod (IntKind.u64.wrap ((IntKind.u64.wrap (t379 + t380)) + x6_1)) 4294967296) % 4294967296)] (fun _ => True) (fun _ => False) rfl rfl ?aP (fun _ hk => hk.elim) ?aF ?aO ?aB ?aS ?aL ?_;(case aP => exact rfl);(case aB => exact bl_);(case aF => exact (fun _ _ => trivial));(case aO => exact (ra_ HO_5.out));(case aS => exact (below_size bl_));(case aL => have := LMc8.out;omega);intro v382 w9 ho hb hg hat;rw [← Ny381.out] at ho;replace HB := Aside0.mk (hb);have HO383 := Aside0.mk (ho);clear HO_5;clear ho hb hg hat))
       go_roundg kj2
       case measure => have := HK1.out;have := HJ2.out;omega
       case rel => exact ⟨(y381),((IntKind.u64.wrap ((IntKind.u64.wrap (t379 + t380)) + x6_1)) / 4294967296),(wrap64 (x7_1 + 1)),(by first | rfl | (simp;done) | (simp [*];done)),(by first | rfl | (simp;done) | (simp [*];done)),H',⟨by have := HK1.out;have := HJ2.out;omega⟩,⟨by (with_reducible repeat (first | apply Kd.R_alloc | apply Kd.R_drewN | apply Kd.R_drew));exact HO383.out⟩,⟨by repeat (first | (with_reducible first | exact HB.out | apply below_alloc | apply pw_below_drewN | apply below_drew1) | exact HB.out)⟩⟩
      ·rw [if_neg c8] at H
       exact absurd H (by simp)
     ·replace c5 := Bool.eq_false_iff.mpr c5
      subst c5
      have H1 : (if x5_1.length < 35184372088832 then ((tabardref1_Trim.f kj2 (x5_1 ++ [(x6_1) % 4294967296])).bind fun t387 => (some t387)) else (none)) = some r := by rw [if_neg (show ¬ (false = true) by decide)] at H;exact H
      clear H
      have H := H1
      clear H1
      by_cases c10 : x5_1.length < 35184372088832
      ·rw [if_pos c10] at H
       have LMc10 := Aside0.mk c10
       clear c10
       obtain ⟨y384,hy384⟩ : ∃ y_ : List Int,y_ = (x5_1 ++ [(x6_1) % 4294967296]) := ⟨_,rfl⟩
       replace H : ((tabardref1_Trim.f kj2 y384).bind fun t387 => (some t387)) = some r := by first | (rw [hy384];with_reducible exact H) | (have H2_ := (Option.bind_some _ _).symm.trans H;rw [hy384];with_reducible exact H2_) | (have H2_ := (Option.bind_some _ _).symm.trans H;with_reducible exact H2_) | with_reducible exact H | (rw [hy384];exact H) | exact H
       have Ny384 := Aside0.mk hy384
       clear hy384
       replace H := Option.bind_eq_some_iff.mp H
       obtain ⟨t387,A110,H⟩ := H
       replace H : (some t387) = some r := H
       have A11 := Aside0.mk A110
       clear A110
       obtain rfl := Option.some.inj H
       go_wp2_with (first | ((with_reducible refine gate_builtin (b := .append) (xs := #[.tmp 38,.tmp 41]) rfl ?_);(try (refine gate_guard (by rfl) ?_;dsimp only));at_builtin;refine Kd.R_append (Kd.int .u32) (w0 := w) w.heap.size rfl (.tmp 38) (.tmp 41) 22 63 (.int .u32 0) 4 rfl Tryz.underlying22 info63 rfl (by decide) (by omega) u5 x5_1 ((x6_1) % 4294967296) [.int .u32 ((x6_1) % 4294967296)] (fun _ => True) (fun _ => False) rfl rfl ?aP (fun _ hk => hk.elim) ?aF ?aO ?aB ?aS ?aL ?_;(case aP => exact rfl);(case aB => exact bl_);(case aF => exact (fun _ _ => trivial));(case aO => exact (ra_ HO_5.out));(case aS => exact (below_size bl_));(case aL => have := LMc10.out;omega);intro v385 w12 ho hb hg hat;rw [← Ny384.out] at ho;replace HB := Aside0.mk (hb);have HO386 := Aside0.mk (ho);clear HO_5;clear ho hb hg hat;obtain ⟨Ao13,co13,eo13⟩ := Kd.R_slice HO386.out;subst eo13) | ((with_reducible refine gate_callee (f := 10) rfl ?_);refine goesL_ (some 44) rfl rfl Tryz.func10 (by kernel_rfl) rfl #[.slice Ao13 y384.length co13] rfl am_ ?_;(with_reducible refine (tabardref1_Trim.calls kj2 _ _ y384 t387 _ ?side1 ?side2 A11.out).mono ?_);(case side1 => exact ca_ (Kd.R_reads' HO386.out).2.2);(case side2 => exact (Kd.R_reads' HO386.out).2.1);rintro e w14 ⟨v388,rfl,ho0,hb⟩;refine ⟨_,rfl,?_⟩;have HO389 := Aside0.mk (Kd.R_lower (Kd.R_new' ho0 (Kd.R_lt (ra_ HO386.out))) (below_size bl_));replace HO386 := Aside0.mk (Kd.R_elder' (ra_ HO386.out) (Kd.R_base ho0) hb);replace HB := Aside0.mk (below_step bl_ hb);(try clear hb);(try clear hb2);(try clear hk);(try clear hi);(try clear ho0)))
       go_ret
       exact ⟨_,by first | rfl | (simp [errW_none,errW_some] <;> rfl) | (simp [*,errW_none,errW_some] <;> rfl),by (with_reducible repeat (first | apply Kd.R_alloc | apply Kd.R_drewN | apply Kd.R_drew));exact Kd.R_mono HO389.out (fun _ hk => trivial),by repeat (first | (with_reducible first | exact HB.out | apply below_alloc | apply pw_below_drewN | apply below_drew1) | exact HB.out)⟩
      ·rw [if_neg c10] at H
       exact absurd H (by simp)

end Go.Proofs.YtfcenlhaepckoaaGreatDoor.P
