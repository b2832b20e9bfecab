-- Printed by a program of this session (wip/tools) over the kit's print: not trusted, Lean checks it.
import Derived.Test.YtfcenlhaepckoaaGreatDoorLNatDigits0n4
import Derived.Test.YtfcenlhaepckoaaGreatDoorProg
import Derived.Test.YtfcenlhaepckoaaGreatDoorPlainn4
import Derived.Test.YtfcenlhaepckoaaGreatDoorS1n4
import Derived.Test.YtfcenlhaepckoaaGreatDoorQ0n4
import Derived.Test.YtfcenlhaepckoaaGreatDoorP0n4
import Derived.Test.YtfcenlhaepckoaaGreatDoorElibn4
import Derived.Test.YtfcenlhaepckoaaGreatDoorSqn4
import Derived.Test.YtfcenlhaepckoaaGreatDoorP6n4
import Derived.Test.YtfcenlhaepckoaaGreatDoorP7n4
import Derived.Test.YtfcenlhaepckoaaGreatDoorP12n4
import Derived.Test.YtfcenlhaepckoaaGreatDoorP13n4
import Derived.Test.YtfcenlhaepckoaaGreatDoorLibsn4
import Derived.Lib.Strings
import Derived.Lib.Repeat
import Derived.Lib.SlTrimSet
import Derived.Lib.Bytealg
import Derived.Laws.MathBits
import Derived.Lib.Atoi
import Derived.Lib.ItoaNum
namespace Go.Proofs.YtfcenlhaepckoaaGreatDoor.LNatDigits
set_option linter.all false
open Go.Proofs.YtfcenlhaepckoaaGreatDoor.P Go.Proofs.YtfcenlhaepckoaaGreatDoor.Q
open Go.RowKit Go.Proofs.YtfcenlhaepckoaaGreatDoorW.PrintWords Go.Proofs.YtfcenlhaepckoaaGreatDoorW.PrintLast Go.Proofs.YtfcenlhaepckoaaGreatDoorW.PrintMore
attribute [local go_sem] max2_int min2_int max_two min_two max_three min_three max_four min_four   -- for this text's walks alone
attribute [local go_sem] cell_after
set_option linter.unusedVariables false
set_option linter.unusedSimpArgs false

/-! ### tabardlaw1_NatDigits: function 6 -/
def tabardlaw1_NatDigits.j0 : Nat → List Int → ByteArray → Bool → Bool → Option (Bool)
 | 0,_,_,_,_ => none
 | k + 1,x0,x1,x5,x23 => if x23 = true then (some x5) else ((nat_Parse.f k x1).bind fun bt102 => ((tabardref1_Parse.f k x1).bind fun bt106 => ((tabardlaw1_same.f k bt102.1 bt106.1).bind fun t110 => (if t110 = true then (if bt102.2 = bt106.2 then ((nat_Digits.f k x0).bind fun t111 => ((tabardref1_Digits.f k x0).bind fun t112 => (some (t111.toList == t112.toList)))) else (some false)) else (some false)))))
def tabardlaw1_NatDigits.f (k : Nat) (l0 : List Int) (a1 : ByteArray) : Option (Bool) := (tabardlaw1_shown.f).bind fun t101 => (if t101 = true then (if (l0.length : Int) > 120 then (tabardlaw1_NatDigits.j0 k l0 a1 t101 true) else (tabardlaw1_NatDigits.j0 k l0 a1 t101 (decide ((a1.size : Int) > 3000)))) else (tabardlaw1_NatDigits.j0 k l0 a1 t101 true))
set_option maxHeartbeats 8000000 in
set_option maxRecDepth 100000 in
theorem tabardlaw1_NatDigits.calls (k : Nat) (A0 : Option Addr) (c0 : Nat) (l0 : List Int) (a1 : ByteArray) (r : Bool) (w : World) (hT : Tabs w) (hr0 : Kd.C (Kd.int .u32) w A0 l0.length l0) (hc0 : l0.length ≤ c0) (h : tabardlaw1_NatDigits.f k l0 a1 = some r) :
  Calls Tryz.prog 6 #[.slice A0 l0.length c0,.string a1] w fun e w' => e = .returned (.bool r) ∧ Below w.heap.size w w' := by
 have HT := Aside0.mk hT
 clear hT
 have HR0 := Aside0.mk hr0
 have HC0 := Aside0.mk hc0
 clear hr0 hc0
 have HB := Aside0.mk (Below.refl w.heap.size w)
 have H : ((tabardlaw1_shown.f).bind fun t101 => (if t101 = true then (if (l0.length : Int) > 120 then (tabardlaw1_NatDigits.j0 k l0 a1 t101 true) else (tabardlaw1_NatDigits.j0 k l0 a1 t101 (decide ((a1.size : Int) > 3000)))) else (tabardlaw1_NatDigits.j0 k l0 a1 t101 true))) = some r := h
 clear h
 replace H := Option.bind_eq_some_iff.mp H
 obtain ⟨t101,A30,H⟩ := H
 replace H : (if t101 = true then (if (l0.length : Int) > 120 then (tabardlaw1_NatDigits.j0 k l0 a1 t101 true) else (tabardlaw1_NatDigits.j0 k l0 a1 t101 (decide ((a1.size : Int) > 3000)))) else (tabardlaw1_NatDigits.j0 k l0 a1 t101 true)) = some r := H
 have A3 := Aside0.mk A30
 clear A30
 have HC4 := Aside0.mk H
 clear H
 go_enter Tryz.func6,Tryz.ntmps6
 go_upto_region 2 with (first | ((with_reducible refine gate_callee (f := 7) rfl ?_);refine goesL_ (some 11) rfl rfl Tryz.func7 (by kernel_rfl) rfl #[] rfl am_ ?_;(with_reducible refine (tabardlaw1_shown.calls  t101 _ ?side1 A3.out).mono ?_);(case side1 => exact Tabs.below HT.out bl_);rintro e w5 ⟨rfl,hb⟩;refine ⟨_,rfl,?_⟩;replace HB := Aside0.mk (below_step bl_ hb);(try clear hb);(try clear hb2);(try clear hk);(try clear hi)))
 (try simp only [Act.put,List.setIfInBounds_toArray,List.set_cons_zero,List.set_cons_succ])
 go_cut [23] (fun v23 wc => ∃ (kq : Nat) (x23_3 : Bool),v23 = .bool x23_3 ∧ Aside0 (tabardlaw1_NatDigits.j0 kq l0 a1 t101 x23_3 = some r) ∧ Aside0 (kq ≤ k) ∧ Aside0 (Below w.heap.size w wc))
 case first =>
  have H := HC4.out
  clear HC4
  by_cases c6 : t101 = true
  ·subst c6
   have H1 : (if (l0.length : Int) > 120 then (tabardlaw1_NatDigits.j0 k l0 a1 true true) else (tabardlaw1_NatDigits.j0 k l0 a1 true (decide ((a1.size : Int) > 3000)))) = some r := by rw [if_pos rfl] at H;exact H
   clear H
   have H := H1
   clear H1
   by_cases c7 : (l0.length : Int) > 120
   ·rw [if_pos c7] at H
    have c7b0 : decide (120 < (l0.length : Int)) = true := decide_eq_true c7
    have c7b1 : decide (120 < l0.length) = true := decide_eq_true (by omega)
    clear c7
    (first | rw [c7b0] | (simp only [i64_w,i32_w];rw [c7b0]) | rw [c7b1] | (simp only [i64_w,i32_w];rw [c7b1]) | skip)
    have H' := Aside0.mk H
    clear H
    go_wp2
    go_meet
    case rel => exact ⟨_,(true),(by first | rfl | (simp;done) | (simp [*];done)),H',⟨by first | omega | exact Nat.le_refl _⟩,⟨by repeat (first | (with_reducible first | exact HB.out | apply below_alloc | apply pw_below_drewN | apply below_drew1) | exact HB.out)⟩⟩
   ·rw [if_neg c7] at H
    have c7b0 : decide (120 < (l0.length : Int)) = false := decide_eq_false c7
    have c7b1 : decide (120 < l0.length) = false := decide_eq_false (by omega)
    clear c7
    (first | rw [c7b0] | (simp only [i64_w,i32_w];rw [c7b0]) | rw [c7b1] | (simp only [i64_w,i32_w];rw [c7b1]) | skip)
    have H' := Aside0.mk H
    clear H
    go_wp2
    go_meet
    case rel => exact ⟨_,(decide ((a1.size : Int) > 3000)),(by first | rfl | (simp;done) | (simp [*];done)),H',⟨by first | omega | exact Nat.le_refl _⟩,⟨by repeat (first | (with_reducible first | exact HB.out | apply below_alloc | apply pw_below_drewN | apply below_drew1) | exact HB.out)⟩⟩
  ·replace c6 := Bool.eq_false_iff.mpr c6
   subst c6
   have H1 : (tabardlaw1_NatDigits.j0 k l0 a1 false true) = some r := by rw [if_neg (show ¬ (false = true) by decide)] at H;exact H
   clear H
   have H := H1
   clear H1
   have H' := Aside0.mk H
   clear H
   go_wp2
   go_meet
   case rel => exact ⟨_,(true),(by first | rfl | (simp;done) | (simp [*];done)),H',⟨by first | omega | exact Nat.le_refl _⟩,⟨by repeat (first | (with_reducible first | exact HB.out | apply below_alloc | apply pw_below_drewN | apply below_drew1) | exact HB.out)⟩⟩
 case rest =>
  clear HC4
  try clear p2
  try clear c6
  try clear c7
  try clear c7b0
  try clear c7b1
  obtain ⟨kq,x23_3,rfl,HA,HJ3,HB⟩ := hcut
  cases kq with
  | zero => exact absurd HA.out (by simp [tabardlaw1_NatDigits.j0])
  | succ kj3 =>
   have H := HA.out
   clear HA
   simp only [tabardlaw1_NatDigits.j0] at H
   by_cases c8 : x23_3 = true
   ·subst c8
    have H1 : (some t101) = some r := by rw [if_pos rfl] at H;exact H
    clear H
    have H := H1
    clear H1
    obtain rfl := Option.some.inj H
    go_wp2
    go_ret
    exact ⟨by first | rfl | (simp [errW_none,errW_some] <;> rfl) | (simp [*,errW_none,errW_some] <;> rfl),by repeat (first | (with_reducible first | exact HB.out | apply below_alloc | apply pw_below_drewN | apply below_drew1) | exact HB.out)⟩
   ·replace c8 := Bool.eq_false_iff.mpr c8
    subst c8
    have H1 : ((nat_Parse.f kj3 a1).bind fun bt102 => ((tabardref1_Parse.f kj3 a1).bind fun bt106 => ((tabardlaw1_same.f kj3 bt102.1 bt106.1).bind fun t110 => (if t110 = true then (if bt102.2 = bt106.2 then ((nat_Digits.f kj3 l0).bind fun t111 => ((tabardref1_Digits.f kj3 l0).bind fun t112 => (some (t111.toList == t112.toList)))) else (some false)) else (some false))))) = some r := by rw [if_neg (show ¬ (false = true) by decide)] at H;exact H
    clear H
    have H := H1
    clear H1
    replace H := Option.bind_eq_some_iff.mp H
    obtain ⟨⟨t102,t103⟩,A90,H⟩ := H
    replace H : ((tabardref1_Parse.f kj3 a1).bind fun bt106 => ((tabardlaw1_same.f kj3 t102 bt106.1).bind fun t110 => (if t110 = true then (if t103 = bt106.2 then ((nat_Digits.f kj3 l0).bind fun t111 => ((tabardref1_Digits.f kj3 l0).bind fun t112 => (some (t111.toList == t112.toList)))) else (some false)) else (some false)))) = some r := H
    have A9 := Aside0.mk A90
    clear A90
    replace H := Option.bind_eq_some_iff.mp H
    obtain ⟨⟨t106,t107⟩,A100,H⟩ := H
    replace H : ((tabardlaw1_same.f kj3 t102 t106).bind fun t110 => (if t110 = true then (if t103 = t107 then ((nat_Digits.f kj3 l0).bind fun t111 => ((tabardref1_Digits.f kj3 l0).bind fun t112 => (some (t111.toList == t112.toList)))) else (some false)) else (some false))) = some r := H
    have A10 := Aside0.mk A100
    clear A100
    replace H := Option.bind_eq_some_iff.mp H
    obtain ⟨t110,A110,H⟩ := H
    replace H : (if t110 = true then (if t103 = t107 then ((nat_Digits.f kj3 l0).bind fun t111 => ((tabardref1_Digits.f kj3 l0).bind fun t112 => (some (t111.toList == t112.toList)))) else (some false)) else (some false)) = some r := H
    have A11 := Aside0.mk A110
    clear A110
    by_cases c12 : t110 = true
    ·subst c12
     have H1 : (if t103 = t107 then ((nat_Digits.f kj3 l0).bind fun t111 => ((tabardref1_Digits.f kj3 l0).bind fun t112 => (some (t111.toList == t112.toList)))) else (some false)) = some r := by rw [if_pos rfl] at H;exact H
     clear H
     have H := H1
     clear H1
     by_cases c13 : t103 = t107
     ·rw [if_pos c13] at H
      have c13b0 : (t103 == t107) = true := beq_iff_eq.mpr c13
      have c13b1 : (t103 != t107) = false := bne_eq_false_iff_eq.mpr c13
      clear c13
      replace H := Option.bind_eq_some_iff.mp H
      obtain ⟨t111,A140,H⟩ := H
      replace H : ((tabardref1_Digits.f kj3 l0).bind fun t112 => (some (t111.toList == t112.toList))) = some r := H
      have A14 := Aside0.mk A140
      clear A140
      replace H := Option.bind_eq_some_iff.mp H
      obtain ⟨t112,A150,H⟩ := H
      replace H : (some (t111.toList == t112.toList)) = some r := H
      have A15 := Aside0.mk A150
      clear A150
      obtain rfl := Option.some.inj H
      go_wp2_with (first | ((with_reducible refine gate_callee (f := 33) rfl ?_);refine goesL_ (some 27) rfl rfl Tryz.func33 (by kernel_rfl) rfl #[.string a1] rfl am_ ?_;(with_reducible refine (nat_Parse.calls kj3 a1 t102 t103 _ A9.out).mono ?_);rintro e w16 ⟨v104,rfl,ho0,hb⟩;refine ⟨_,rfl,?_⟩;have HO105 := Aside0.mk (Kd.R_lower ho0 (below_size bl_));replace HB := Aside0.mk (below_step bl_ hb);(try clear hb);(try clear hb2);(try clear hk);(try clear hi);(try clear ho0)) | ((with_reducible refine gate_callee (f := 34) rfl ?_);refine goesL_ (some 32) rfl rfl Tryz.func34 (by kernel_rfl) rfl #[.string a1] rfl am_ ?_;(with_reducible refine (tabardref1_Parse.calls kj3 a1 t106 t107 _ A10.out).mono ?_);rintro e w17 ⟨v108,rfl,ho0,hb⟩;refine ⟨_,rfl,?_⟩;have HO109 := Aside0.mk (Kd.R_lower (Kd.R_new' ho0 (Kd.R_lt (ra_ HO105.out))) (below_size bl_));replace HO105 := Aside0.mk (Kd.R_elder' (ra_ HO105.out) (Kd.R_base ho0) hb);replace HB := Aside0.mk (below_step bl_ hb);(try clear hb);(try clear hb2);(try clear hk);(try clear hi);(try clear ho0);obtain ⟨Ao18,co18,eo18⟩ := Kd.R_slice HO105.out;subst eo18;obtain ⟨Ao19,co19,eo19⟩ := Kd.R_slice HO109.out;subst eo19) | ((with_reducible refine gate_callee (f := 8) rfl ?_);refine goesL_ (some 37) rfl rfl Tryz.func8 (by kernel_rfl) rfl #[.slice Ao18 t102.length co18,.slice Ao19 t106.length co19] rfl am_ ?_;(with_reducible refine (tabardlaw1_same.calls kj3 _ _ t102 _ _ t106 true _ ?side1 ?side2 ?side3 ?side4 A11.out).mono ?_);(case side1 => exact ca_ (Kd.R_reads' HO105.out).2.2);(case side2 => exact (Kd.R_reads' HO105.out).2.1);(case side3 => exact ca_ (Kd.R_reads' HO109.out).2.2);(case side4 => exact (Kd.R_reads' HO109.out).2.1);rintro e w' ⟨rfl,⟨nd,rfl⟩⟩;refine ⟨_,rfl,?_⟩) | (go_at_call 35;(with_reducible refine (nat_Digits.calls kj3 _ _ l0 t111 _ ?side1 ?side2 ?side3 A14.out).mono ?_);(case side1 => exact Tabs.below HT.out bl_);(case side2 => exact ca_ (Kd.C_below HR0.out bl_));(case side3 => exact HC0.out);rintro e w20 ⟨rfl,hb⟩;replace HO105 := Aside0.mk (Kd.R_below (ra_ HO105.out) hb);replace HO109 := Aside0.mk (Kd.R_below (ra_ HO109.out) hb);replace HB := Aside0.mk (below_step bl_ hb);(try clear hb);(try clear hb2);(try clear hk);(try clear hi)) | (go_at_call 36;(with_reducible refine (tabardref1_Digits.calls kj3 _ _ l0 t112 _ ?side1 ?side2 A15.out).mono ?_);(case side1 => exact ca_ (Kd.C_below HR0.out HB.out));(case side2 => exact HC0.out);rintro e w21 ⟨rfl,hb⟩;replace HO105 := Aside0.mk (Kd.R_below (ra_ HO105.out) hb);replace HO109 := Aside0.mk (Kd.R_below (ra_ HO109.out) hb);replace HB := Aside0.mk (below_step bl_ hb);(try clear hb);(try clear hb2);(try clear hk);(try clear hi)))
      go_ret
      exact ⟨by first | rfl | (simp [errW_none,errW_some] <;> rfl) | (simp [*,errW_none,errW_some] <;> rfl),by repeat (first | (with_reducible first | exact HB.out | apply below_alloc | apply pw_below_drewN | apply below_drew1) | exact HB.out)⟩
     ·rw [if_neg c13] at H
      have c13b0 : (t103 == t107) = false := beq_eq_false_iff_ne.mpr c13
      have c13b1 : (t103 != t107) = true := bne_iff_ne.mpr c13
      obtain rfl := Option.some.inj H
      go_wp2_with (first | ((with_reducible refine gate_callee (f := 33) rfl ?_);refine goesL_ (some 27) rfl rfl Tryz.func33 (by kernel_rfl) rfl #[.string a1] rfl am_ ?_;(with_reducible refine (nat_Parse.calls kj3 a1 t102 t103 _ A9.out).mono ?_);rintro e w22 ⟨v104,rfl,ho0,hb⟩;refine ⟨_,rfl,?_⟩;have HO105 := Aside0.mk (Kd.R_lower ho0 (below_size bl_));replace HB := Aside0.mk (below_step bl_ hb);(try clear hb);(try clear hb2);(try clear hk);(try clear hi);(try clear ho0)) | ((with_reducible refine gate_callee (f := 34) rfl ?_);refine goesL_ (some 32) rfl rfl Tryz.func34 (by kernel_rfl) rfl #[.string a1] rfl am_ ?_;(with_reducible refine (tabardref1_Parse.calls kj3 a1 t106 t107 _ A10.out).mono ?_);rintro e w23 ⟨v108,rfl,ho0,hb⟩;refine ⟨_,rfl,?_⟩;have HO109 := Aside0.mk (Kd.R_lower (Kd.R_new' ho0 (Kd.R_lt (ra_ HO105.out))) (below_size bl_));replace HO105 := Aside0.mk (Kd.R_elder' (ra_ HO105.out) (Kd.R_base ho0) hb);replace HB := Aside0.mk (below_step bl_ hb);(try clear hb);(try clear hb2);(try clear hk);(try clear hi);(try clear ho0);obtain ⟨Ao24,co24,eo24⟩ := Kd.R_slice HO105.out;subst eo24;obtain ⟨Ao25,co25,eo25⟩ := Kd.R_slice HO109.out;subst eo25) | ((with_reducible refine gate_callee (f := 8) rfl ?_);refine goesL_ (some 37) rfl rfl Tryz.func8 (by kernel_rfl) rfl #[.slice Ao24 t102.length co24,.slice Ao25 t106.length co25] rfl am_ ?_;(with_reducible refine (tabardlaw1_same.calls kj3 _ _ t102 _ _ t106 true _ ?side1 ?side2 ?side3 ?side4 A11.out).mono ?_);(case side1 => exact ca_ (Kd.R_reads' HO105.out).2.2);(case side2 => exact (Kd.R_reads' HO105.out).2.1);(case side3 => exact ca_ (Kd.R_reads' HO109.out).2.2);(case side4 => exact (Kd.R_reads' HO109.out).2.1);rintro e w' ⟨rfl,⟨nd,rfl⟩⟩;refine ⟨_,rfl,?_⟩))
      go_ret
      exact ⟨by first | rfl | (simp [errW_none,errW_some] <;> rfl) | (simp [*,errW_none,errW_some] <;> rfl),by repeat (first | (with_reducible first | exact HB.out | apply below_alloc | apply pw_below_drewN | apply below_drew1) | exact HB.out)⟩
    ·replace c12 := Bool.eq_false_iff.mpr c12
     subst c12
     have H1 : (some false) = some r := by rw [if_neg (show ¬ (false = true) by decide)] at H;exact H
     clear H
     have H := H1
     clear H1
     obtain rfl := Option.some.inj H
     go_wp2_with (first | ((with_reducible refine gate_callee (f := 33) rfl ?_);refine goesL_ (some 27) rfl rfl Tryz.func33 (by kernel_rfl) rfl #[.string a1] rfl am_ ?_;(with_reducible refine (nat_Parse.calls kj3 a1 t102 t103 _ A9.out).mono ?_);rintro e w26 ⟨v104,rfl,ho0,hb⟩;refine ⟨_,rfl,?_⟩;have HO105 := Aside0.mk (Kd.R_lower ho0 (below_size bl_));replace HB := Aside0.mk (below_step bl_ hb);(try clear hb);(try clear hb2);(try clear hk);(try clear hi);(try clear ho0)) | ((with_reducible refine gate_callee (f := 34) rfl ?_);refine goesL_ (some 32) rfl rfl Tryz.func34 (by kernel_rfl) rfl #[.string a1] rfl am_ ?_;(with_reducible refine (tabardref1_Parse.calls kj3 a1 t106 t107 _ A10.out).mono ?_);rintro e w27 ⟨v108,rfl,ho0,hb⟩;refine ⟨_,rfl,?_⟩;have HO109 := Aside0.mk (Kd.R_lower (Kd.R_new' ho0 (Kd.R_lt (ra_ HO105.out))) (below_size bl_));replace HO105 := Aside0.mk (Kd.R_elder' (ra_ HO105.out) (Kd.R_base ho0) hb);replace HB := Aside0.mk (below_step bl_ hb);(try clear hb);(try clear hb2);(try clear hk);(try clear hi);(try clear ho0);obtain ⟨Ao28,co28,eo28⟩ := Kd.R_slice HO105.out;subst eo28;obtain ⟨Ao29,co29,eo29⟩ := Kd.R_slice HO109.out;subst eo29) | ((with_reducible refine gate_callee (f := 8) rfl ?_);refine goesL_ (some 37) rfl rfl Tryz.func8 (by kernel_rfl) rfl #[.slice Ao28 t102.length co28,.slice Ao29 t106.length co29] rfl am_ ?_;(with_reducible refine (tabardlaw1_same.calls kj3 _ _ t102 _ _ t106 false _ ?side1 ?side2 ?side3 ?side4 A11.out).mono ?_);(case side1 => exact ca_ (Kd.R_reads' HO105.out).2.2);(case side2 => exact (Kd.R_reads' HO105.out).2.1);(case side3 => exact ca_ (Kd.R_reads' HO109.out).2.2);(case side4 => exact (Kd.R_reads' HO109.out).2.1);rintro e w' ⟨rfl,⟨nd,rfl⟩⟩;refine ⟨_,rfl,?_⟩))
     go_ret
     exact ⟨by first | rfl | (simp [errW_none,errW_some] <;> rfl) | (simp [*,errW_none,errW_some] <;> rfl),by repeat (first | (with_reducible first | exact HB.out | apply below_alloc | apply pw_below_drewN | apply below_drew1) | exact HB.out)⟩

end Go.Proofs.YtfcenlhaepckoaaGreatDoor.LNatDigits
