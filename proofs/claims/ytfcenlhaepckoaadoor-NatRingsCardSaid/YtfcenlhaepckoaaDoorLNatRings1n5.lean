-- Printed by a program of this session (wip/tools) over the kit's print: not trusted, Lean checks it.
import Derived.Test.YtfcenlhaepckoaaDoorLNatRings0n5
import Derived.Test.YtfcenlhaepckoaaDoorProg
import Derived.Test.YtfcenlhaepckoaaDoorPlainn5
import Derived.Test.YtfcenlhaepckoaaDoorS1n5
import Derived.Test.YtfcenlhaepckoaaDoorQ0n5
import Derived.Test.YtfcenlhaepckoaaDoorP0n5
import Derived.Test.YtfcenlhaepckoaaDoorElibn5
import Derived.Test.YtfcenlhaepckoaaDoorSqn5
import Derived.Test.YtfcenlhaepckoaaDoorP2n5
import Derived.Test.YtfcenlhaepckoaaDoorP3n5
import Derived.Test.YtfcenlhaepckoaaDoorP5n5
import Derived.Test.YtfcenlhaepckoaaDoorP7n5
import Derived.Test.YtfcenlhaepckoaaDoorLibsn5
import Derived.Lib.Strings
import Derived.Lib.Repeat
import Derived.Lib.SlTrimSet
import Derived.Lib.Bytealg
import Derived.Laws.MathBits
import Derived.Lib.Atoi
import Derived.Lib.ItoaNum
namespace Go.Proofs.YtfcenlhaepckoaaDoor.LNatRings
set_option linter.all false
open Go.Proofs.YtfcenlhaepckoaaDoor.P Go.Proofs.YtfcenlhaepckoaaDoor.Q
open Go.RowKit Go.Proofs.YtfcenlhaepckoaaDoorW.PrintWords Go.Proofs.YtfcenlhaepckoaaDoorW.PrintLast Go.Proofs.YtfcenlhaepckoaaDoorW.PrintMore
attribute [local go_sem] max2_int min2_int max_two min_two max_three min_three max_four min_four   -- for this text's walks alone
attribute [local go_sem] cell_after
set_option linter.unusedVariables false
set_option linter.unusedSimpArgs false

/-! ### tabardlaw1_NatRings: function 3 -/
mutual
def tabardlaw1_NatRings.j0 : Nat → List Int → List Int → List Int → Bool → Bool → Option (Bool)
 | 0,_,_,_,_,_ => none
 | k + 1,x0,x1,x2,x7,x54 => if x54 = true then (some x7) else ((nat_Add.f k x0 x1).bind fun bt102 => ((nat_Add.f k x1 x0).bind fun bt106 => ((nat_Add.f k x1 x2).bind fun bt110 => ((nat_Add.f k bt102.1 x2).bind fun bt114 => ((nat_Add.f k x0 bt110.1).bind fun bt118 => ((nat_Sub.f k bt102.1 x1).bind fun bt122 => (if bt102.2 = 0 then (if bt106.2 = 0 then (if bt110.2 = 0 then (if bt114.2 = 0 then (if bt118.2 = 0 then (tabardlaw1_NatRings.j1 k x0 x1 x2 bt102.1 bt106.1 bt110.1 bt114.1 bt118.1 bt122.1 (bt122.2 != 0)) else (tabardlaw1_NatRings.j1 k x0 x1 x2 bt102.1 bt106.1 bt110.1 bt114.1 bt118.1 bt122.1 true)) else (tabardlaw1_NatRings.j1 k x0 x1 x2 bt102.1 bt106.1 bt110.1 bt114.1 bt118.1 bt122.1 true)) else (tabardlaw1_NatRings.j1 k x0 x1 x2 bt102.1 bt106.1 bt110.1 bt114.1 bt118.1 bt122.1 true)) else (tabardlaw1_NatRings.j1 k x0 x1 x2 bt102.1 bt106.1 bt110.1 bt114.1 bt118.1 bt122.1 true)) else (tabardlaw1_NatRings.j1 k x0 x1 x2 bt102.1 bt106.1 bt110.1 bt114.1 bt118.1 bt122.1 true))))))))
def tabardlaw1_NatRings.j1 : Nat → List Int → List Int → List Int → List Int → List Int → List Int → List Int → List Int → List Int → Bool → Option (Bool)
 | 0,_,_,_,_,_,_,_,_,_,_ => none
 | k + 1,x0,x1,x2,x8,x10,x12,x14,x16,x18,x113 => if x113 = true then (some false) else ((tabardlaw1_equal.f k x8 x10).bind fun t126 => (if t126 = true then ((tabardlaw1_equal.f k x14 x16).bind fun t127 => (if t127 = true then ((nat_Trim.f k x0).bind fun t128 => ((tabardlaw1_equal.f k x18 t128).bind fun t131 => (tabardlaw1_NatRings.j2 k x0 x1 x2 x12 t131))) else (tabardlaw1_NatRings.j2 k x0 x1 x2 x12 false))) else (tabardlaw1_NatRings.j2 k x0 x1 x2 x12 false)))
def tabardlaw1_NatRings.j2 : Nat → List Int → List Int → List Int → List Int → Bool → Option (Bool)
 | 0,_,_,_,_,_ => none
 | k + 1,x0,x1,x2,x12,x20 => (nat_Mul.f k x0 x1).bind fun bt132 => ((nat_Mul.f k x1 x0).bind fun bt136 => ((nat_Mul.f k x0 x12).bind fun bt140 => ((nat_Mul.f k x0 x2).bind fun bt144 => ((nat_Add.f k bt132.1 bt144.1).bind fun bt148 => ((nat_Mul.f k bt132.1 x2).bind fun bt152 => ((nat_Mul.f k x1 x2).bind fun bt156 => ((nat_Mul.f k x0 bt156.1).bind fun bt160 => (if bt132.2 = 0 then (if bt136.2 = 0 then (if bt140.2 = 0 then (if bt144.2 = 0 then (if bt148.2 = 0 then (if bt152.2 = 0 then (if bt156.2 = 0 then (tabardlaw1_NatRings.j3 k x20 bt132.1 bt136.1 bt140.1 bt148.1 bt152.1 bt160.1 (bt160.2 != 0)) else (tabardlaw1_NatRings.j3 k x20 bt132.1 bt136.1 bt140.1 bt148.1 bt152.1 bt160.1 true)) else (tabardlaw1_NatRings.j3 k x20 bt132.1 bt136.1 bt140.1 bt148.1 bt152.1 bt160.1 true)) else (tabardlaw1_NatRings.j3 k x20 bt132.1 bt136.1 bt140.1 bt148.1 bt152.1 bt160.1 true)) else (tabardlaw1_NatRings.j3 k x20 bt132.1 bt136.1 bt140.1 bt148.1 bt152.1 bt160.1 true)) else (tabardlaw1_NatRings.j3 k x20 bt132.1 bt136.1 bt140.1 bt148.1 bt152.1 bt160.1 true)) else (tabardlaw1_NatRings.j3 k x20 bt132.1 bt136.1 bt140.1 bt148.1 bt152.1 bt160.1 true)) else (tabardlaw1_NatRings.j3 k x20 bt132.1 bt136.1 bt140.1 bt148.1 bt152.1 bt160.1 true)))))))))
def tabardlaw1_NatRings.j3 : Nat → Bool → List Int → List Int → List Int → List Int → List Int → List Int → Bool → Option (Bool)
 | 0,_,_,_,_,_,_,_,_ => none
 | k + 1,x20,x21,x23,x25,x29,x31,x35,x205 => if x205 = true then (some false) else (if x20 = true then ((tabardlaw1_equal.f k x21 x23).bind fun t164 => (if t164 = true then ((tabardlaw1_equal.f k x25 x29).bind fun t165 => (if t165 = true then ((tabardlaw1_equal.f k x31 x35).bind fun t166 => (some t166)) else (some false))) else (some false))) else (some false))
end
def tabardlaw1_NatRings.f (k : Nat) (l0 : List Int) (l1 : List Int) (l2 : List Int) : Option (Bool) := (tabardlaw1_shown.f).bind fun t101 => (if t101 = true then (if (l0.length : Int) > 60 then (tabardlaw1_NatRings.j0 k l0 l1 l2 t101 true) else (if (l1.length : Int) > 60 then (tabardlaw1_NatRings.j0 k l0 l1 l2 t101 true) else (tabardlaw1_NatRings.j0 k l0 l1 l2 t101 (decide ((l2.length : Int) > 60))))) else (tabardlaw1_NatRings.j0 k l0 l1 l2 t101 true))
set_option maxHeartbeats 8000000 in
set_option maxRecDepth 100000 in
theorem tabardlaw1_NatRings.calls (k : Nat) (A0 : Option Addr) (c0 : Nat) (l0 : List Int) (A1 : Option Addr) (c1 : Nat) (l1 : List Int) (A2 : Option Addr) (c2 : Nat) (l2 : List Int) (r : Bool) (w : World) (hT : Tabs w) (hr0 : Kd.C (Kd.int .u32) w A0 l0.length l0) (hc0 : l0.length ≤ c0) (hr1 : Kd.C (Kd.int .u32) w A1 l1.length l1) (hc1 : l1.length ≤ c1) (hr2 : Kd.C (Kd.int .u32) w A2 l2.length l2) (hc2 : l2.length ≤ c2) (h : tabardlaw1_NatRings.f k l0 l1 l2 = some r) :
  Calls Tryd.prog 3 #[.slice A0 l0.length c0,.slice A1 l1.length c1,.slice A2 l2.length c2] w fun e w' => e = .returned (.bool r) ∧ Below w.heap.size w w' := by
 have HT := Aside0.mk hT
 clear hT
 have HR0 := Aside0.mk hr0
 have HC0 := Aside0.mk hc0
 clear hr0 hc0
 have HR1 := Aside0.mk hr1
 have HC1 := Aside0.mk hc1
 clear hr1 hc1
 have HR2 := Aside0.mk hr2
 have HC2 := Aside0.mk hc2
 clear hr2 hc2
 have HB := Aside0.mk (Below.refl w.heap.size w)
 have H : ((tabardlaw1_shown.f).bind fun t101 => (if t101 = true then (if (l0.length : Int) > 60 then (tabardlaw1_NatRings.j0 k l0 l1 l2 t101 true) else (if (l1.length : Int) > 60 then (tabardlaw1_NatRings.j0 k l0 l1 l2 t101 true) else (tabardlaw1_NatRings.j0 k l0 l1 l2 t101 (decide ((l2.length : Int) > 60))))) else (tabardlaw1_NatRings.j0 k l0 l1 l2 t101 true))) = some r := h
 clear h
 replace H := Option.bind_eq_some_iff.mp H
 obtain ⟨t101,A40,H⟩ := H
 replace H : (if t101 = true then (if (l0.length : Int) > 60 then (tabardlaw1_NatRings.j0 k l0 l1 l2 t101 true) else (if (l1.length : Int) > 60 then (tabardlaw1_NatRings.j0 k l0 l1 l2 t101 true) else (tabardlaw1_NatRings.j0 k l0 l1 l2 t101 (decide ((l2.length : Int) > 60))))) else (tabardlaw1_NatRings.j0 k l0 l1 l2 t101 true)) = some r := H
 have A4 := Aside0.mk A40
 clear A40
 have HC5 := Aside0.mk H
 clear H
 go_enter Tryd.func3,Tryd.ntmps3
 go_upto_region 2 with (first | ((with_reducible refine gate_callee (f := 7) rfl ?_);refine goesL_ (some 37) rfl rfl Tryd.func7 (by kernel_rfl) rfl #[] rfl am_ ?_;(with_reducible refine (tabardlaw1_shown.calls  t101 _ ?side1 A4.out).mono ?_);(case side1 => exact Tabs.below HT.out bl_);rintro e w6 ⟨rfl,hb⟩;refine ⟨_,rfl,?_⟩;replace HB := Aside0.mk (below_step bl_ hb);(try clear hb);(try clear hb2);(try clear hk);(try clear hi)))
 (try simp only [Act.put,List.setIfInBounds_toArray,List.set_cons_zero,List.set_cons_succ])
 go_cut [54] (fun v54 wc => ∃ (kq : Nat) (x54_4 : Bool),v54 = .bool x54_4 ∧ Aside0 (tabardlaw1_NatRings.j0 kq l0 l1 l2 t101 x54_4 = some r) ∧ Aside0 (kq ≤ k) ∧ Aside0 (Below w.heap.size w wc))
 case first => as_aux_lemma =>
  have H := HC5.out
  clear HC5
  by_cases c7 : t101 = true
  ·subst c7
   have H1 : (if (l0.length : Int) > 60 then (tabardlaw1_NatRings.j0 k l0 l1 l2 true true) else (if (l1.length : Int) > 60 then (tabardlaw1_NatRings.j0 k l0 l1 l2 true true) else (tabardlaw1_NatRings.j0 k l0 l1 l2 true (decide ((l2.length : Int) > 60))))) = some r := by rw [if_pos rfl] at H;exact H
   clear H
   have H := H1
   clear H1
   by_cases c8 : (l0.length : Int) > 60
   ·rw [if_pos c8] at H
    have c8b0 : decide (60 < (l0.length : Int)) = true := decide_eq_true c8
    have c8b1 : decide (60 < l0.length) = true := decide_eq_true (by omega)
    clear c8
    (first | rw [c8b0] | (simp only [i64_w,i32_w];rw [c8b0]) | rw [c8b1] | (simp only [i64_w,i32_w];rw [c8b1]) | skip)
    have H' := Aside0.mk H
    clear H
    go_wp2
    go_meet
    case rel => exact ⟨_,(true),(by first | rfl | (simp;done) | (simp [*];done)),H',⟨by first | omega | exact Nat.le_refl _⟩,⟨by repeat (first | (with_reducible first | exact HB.out | apply below_alloc | apply pw_below_drewN | apply below_drew1) | exact HB.out)⟩⟩
   ·rw [if_neg c8] at H
    have c8b0 : decide (60 < (l0.length : Int)) = false := decide_eq_false c8
    have c8b1 : decide (60 < l0.length) = false := decide_eq_false (by omega)
    clear c8
    (first | rw [c8b0] | (simp only [i64_w,i32_w];rw [c8b0]) | rw [c8b1] | (simp only [i64_w,i32_w];rw [c8b1]) | skip)
    by_cases c9 : (l1.length : Int) > 60
    ·rw [if_pos c9] at H
     have c9b0 : decide (60 < (l1.length : Int)) = true := decide_eq_true c9
     have c9b1 : decide (60 < l1.length) = true := decide_eq_true (by omega)
     clear c9
     have H' := Aside0.mk H
     clear H
     go_wp2
     go_meet
     case rel => exact ⟨_,(true),(by first | rfl | (simp;done) | (simp [*];done)),H',⟨by first | omega | exact Nat.le_refl _⟩,⟨by repeat (first | (with_reducible first | exact HB.out | apply below_alloc | apply pw_below_drewN | apply below_drew1) | exact HB.out)⟩⟩
    ·rw [if_neg c9] at H
     have c9b0 : decide (60 < (l1.length : Int)) = false := decide_eq_false c9
     have c9b1 : decide (60 < l1.length) = false := decide_eq_false (by omega)
     clear c9
     have H' := Aside0.mk H
     clear H
     go_wp2
     go_meet
     case rel => exact ⟨_,(decide ((l2.length : Int) > 60)),(by first | rfl | (simp;done) | (simp [*];done)),H',⟨by first | omega | exact Nat.le_refl _⟩,⟨by repeat (first | (with_reducible first | exact HB.out | apply below_alloc | apply pw_below_drewN | apply below_drew1) | exact HB.out)⟩⟩
  ·replace c7 := Bool.eq_false_iff.mpr c7
   subst c7
   have H1 : (tabardlaw1_NatRings.j0 k l0 l1 l2 false true) = some r := by rw [if_neg (show ¬ (false = true) by decide)] at H;exact H
   clear H
   have H := H1
   clear H1
   have H' := Aside0.mk H
   clear H
   go_wp2
   go_meet
   case rel => exact ⟨_,(true),(by first | rfl | (simp;done) | (simp [*];done)),H',⟨by first | omega | exact Nat.le_refl _⟩,⟨by repeat (first | (with_reducible first | exact HB.out | apply below_alloc | apply pw_below_drewN | apply below_drew1) | exact HB.out)⟩⟩
 case rest => as_aux_lemma =>
  clear HC5
  try clear c1
  try clear c2
  try clear p2
  try clear c3
  try clear c7
  try clear c8
  try clear c8b0
  try clear c8b1
  try clear c9
  try clear c9b0
  try clear c9b1
  obtain ⟨kq,x54_4,rfl,HA,HJ4,HB⟩ := hcut
  cases kq with
  | zero => exact absurd HA.out (by simp [tabardlaw1_NatRings.j0])
  | succ kj4 =>
   have H := HA.out
   clear HA
   simp only [tabardlaw1_NatRings.j0] at H
   by_cases c10 : x54_4 = true
   ·subst c10
    have H1 : (some t101) = some r := by rw [if_pos rfl] at H;exact H
    clear H
    have H := H1
    clear H1
    obtain rfl := Option.some.inj H
    go_wp2
    go_ret
    exact ⟨by first | rfl | (simp [errW_none,errW_some] <;> rfl) | (simp [*,errW_none,errW_some] <;> rfl),by repeat (first | (with_reducible first | exact HB.out | apply below_alloc | apply pw_below_drewN | apply below_drew1) | exact HB.out)⟩
   ·replace c10 := Bool.eq_false_iff.mpr c10
    subst c10
    have H1 : ((nat_Add.f kj4 l0 l1).bind fun bt102 => ((nat_Add.f kj4 l1 l0).bind fun bt106 => ((nat_Add.f kj4 l1 l2).bind fun bt110 => ((nat_Add.f kj4 bt102.1 l2).bind fun bt114 => ((nat_Add.f kj4 l0 bt110.1).bind fun bt118 => ((nat_Sub.f kj4 bt102.1 l1).bind fun bt122 => (if bt102.2 = 0 then (if bt106.2 = 0 then (if bt110.2 = 0 then (if bt114.2 = 0 then (if bt118.2 = 0 then (tabardlaw1_NatRings.j1 kj4 l0 l1 l2 bt102.1 bt106.1 bt110.1 bt114.1 bt118.1 bt122.1 (bt122.2 != 0)) else (tabardlaw1_NatRings.j1 kj4 l0 l1 l2 bt102.1 bt106.1 bt110.1 bt114.1 bt118.1 bt122.1 true)) else (tabardlaw1_NatRings.j1 kj4 l0 l1 l2 bt102.1 bt106.1 bt110.1 bt114.1 bt118.1 bt122.1 true)) else (tabardlaw1_NatRings.j1 kj4 l0 l1 l2 bt102.1 bt106.1 bt110.1 bt114.1 bt118.1 bt122.1 true)) else (tabardlaw1_NatRings.j1 kj4 l0 l1 l2 bt102.1 bt106.1 bt110.1 bt114.1 bt118.1 bt122.1 true)) else (tabardlaw1_NatRings.j1 kj4 l0 l1 l2 bt102.1 bt106.1 bt110.1 bt114.1 bt118.1 bt122.1 true)))))))) = some r := by rw [if_neg (show ¬ (false = true) by decide)] at H;exact H
    clear H
    have H := H1
    clear H1
    replace H := Option.bind_eq_some_iff.mp H
    obtain ⟨⟨t102,t105⟩,A110,H⟩ := H
    replace H : ((nat_Add.f kj4 l1 l0).bind fun bt106 => ((nat_Add.f kj4 l1 l2).bind fun bt110 => ((nat_Add.f kj4 t102 l2).bind fun bt114 => ((nat_Add.f kj4 l0 bt110.1).bind fun bt118 => ((nat_Sub.f kj4 t102 l1).bind fun bt122 => (if t105 = 0 then (if bt106.2 = 0 then (if bt110.2 = 0 then (if bt114.2 = 0 then (if bt118.2 = 0 then (tabardlaw1_NatRings.j1 kj4 l0 l1 l2 t102 bt106.1 bt110.1 bt114.1 bt118.1 bt122.1 (bt122.2 != 0)) else (tabardlaw1_NatRings.j1 kj4 l0 l1 l2 t102 bt106.1 bt110.1 bt114.1 bt118.1 bt122.1 true)) else (tabardlaw1_NatRings.j1 kj4 l0 l1 l2 t102 bt106.1 bt110.1 bt114.1 bt118.1 bt122.1 true)) else (tabardlaw1_NatRings.j1 kj4 l0 l1 l2 t102 bt106.1 bt110.1 bt114.1 bt118.1 bt122.1 true)) else (tabardlaw1_NatRings.j1 kj4 l0 l1 l2 t102 bt106.1 bt110.1 bt114.1 bt118.1 bt122.1 true)) else (tabardlaw1_NatRings.j1 kj4 l0 l1 l2 t102 bt106.1 bt110.1 bt114.1 bt118.1 bt122.1 true))))))) = some r := H
    have A11 := Aside0.mk A110
    clear A110
    replace H := Option.bind_eq_some_iff.mp H
    obtain ⟨⟨t106,t109⟩,A120,H⟩ := H
    replace H : ((nat_Add.f kj4 l1 l2).bind fun bt110 => ((nat_Add.f kj4 t102 l2).bind fun bt114 => ((nat_Add.f kj4 l0 bt110.1).bind fun bt118 => ((nat_Sub.f kj4 t102 l1).bind fun bt122 => (if t105 = 0 then (if t109 = 0 then (if bt110.2 = 0 then (if bt114.2 = 0 then (if bt118.2 = 0 then (tabardlaw1_NatRings.j1 kj4 l0 l1 l2 t102 t106 bt110.1 bt114.1 bt118.1 bt122.1 (bt122.2 != 0)) else (tabardlaw1_NatRings.j1 kj4 l0 l1 l2 t102 t106 bt110.1 bt114.1 bt118.1 bt122.1 true)) else (tabardlaw1_NatRings.j1 kj4 l0 l1 l2 t102 t106 bt110.1 bt114.1 bt118.1 bt122.1 true)) else (tabardlaw1_NatRings.j1 kj4 l0 l1 l2 t102 t106 bt110.1 bt114.1 bt118.1 bt122.1 true)) else (tabardlaw1_NatRings.j1 kj4 l0 l1 l2 t102 t106 bt110.1 bt114.1 bt118.1 bt122.1 true)) else (tabardlaw1_NatRings.j1 kj4 l0 l1 l2 t102 t106 bt110.1 bt114.1 bt118.1 bt122.1 true)))))) = some r := H
    have A12 := Aside0.mk A120
    clear A120
    replace H := Option.bind_eq_some_iff.mp H
    obtain ⟨⟨t110,t113⟩,A130,H⟩ := H
    replace H : ((nat_Add.f kj4 t102 l2).bind fun bt114 => ((nat_Add.f kj4 l0 t110).bind fun bt118 => ((nat_Sub.f kj4 t102 l1).bind fun bt122 => (if t105 = 0 then (if t109 = 0 then (if t113 = 0 then (if bt114.2 = 0 then (if bt118.2 = 0 then (tabardlaw1_NatRings.j1 kj4 l0 l1 l2 t102 t106 t110 bt114.1 bt118.1 bt122.1 (bt122.2 != 0)) else (tabardlaw1_NatRings.j1 kj4 l0 l1 l2 t102 t106 t110 bt114.1 bt118.1 bt122.1 true)) else (tabardlaw1_NatRings.j1 kj4 l0 l1 l2 t102 t106 t110 bt114.1 bt118.1 bt122.1 true)) else (tabardlaw1_NatRings.j1 kj4 l0 l1 l2 t102 t106 t110 bt114.1 bt118.1 bt122.1 true)) else (tabardlaw1_NatRings.j1 kj4 l0 l1 l2 t102 t106 t110 bt114.1 bt118.1 bt122.1 true)) else (tabardlaw1_NatRings.j1 kj4 l0 l1 l2 t102 t106 t110 bt114.1 bt118.1 bt122.1 true))))) = some r := H
    have A13 := Aside0.mk A130
    clear A130
    replace H := Option.bind_eq_some_iff.mp H
    obtain ⟨⟨t114,t117⟩,A140,H⟩ := H
    replace H : ((nat_Add.f kj4 l0 t110).bind fun bt118 => ((nat_Sub.f kj4 t102 l1).bind fun bt122 => (if t105 = 0 then (if t109 = 0 then (if t113 = 0 then (if t117 = 0 then (if bt118.2 = 0 then (tabardlaw1_NatRings.j1 kj4 l0 l1 l2 t102 t106 t110 t114 bt118.1 bt122.1 (bt122.2 != 0)) else (tabardlaw1_NatRings.j1 kj4 l0 l1 l2 t102 t106 t110 t114 bt118.1 bt122.1 true)) else (tabardlaw1_NatRings.j1 kj4 l0 l1 l2 t102 t106 t110 t114 bt118.1 bt122.1 true)) else (tabardlaw1_NatRings.j1 kj4 l0 l1 l2 t102 t106 t110 t114 bt118.1 bt122.1 true)) else (tabardlaw1_NatRings.j1 kj4 l0 l1 l2 t102 t106 t110 t114 bt118.1 bt122.1 true)) else (tabardlaw1_NatRings.j1 kj4 l0 l1 l2 t102 t106 t110 t114 bt118.1 bt122.1 true)))) = some r := H
    have A14 := Aside0.mk A140
    clear A140
    replace H := Option.bind_eq_some_iff.mp H
    obtain ⟨⟨t118,t121⟩,A150,H⟩ := H
    replace H : ((nat_Sub.f kj4 t102 l1).bind fun bt122 => (if t105 = 0 then (if t109 = 0 then (if t113 = 0 then (if t117 = 0 then (if t121 = 0 then (tabardlaw1_NatRings.j1 kj4 l0 l1 l2 t102 t106 t110 t114 t118 bt122.1 (bt122.2 != 0)) else (tabardlaw1_NatRings.j1 kj4 l0 l1 l2 t102 t106 t110 t114 t118 bt122.1 true)) else (tabardlaw1_NatRings.j1 kj4 l0 l1 l2 t102 t106 t110 t114 t118 bt122.1 true)) else (tabardlaw1_NatRings.j1 kj4 l0 l1 l2 t102 t106 t110 t114 t118 bt122.1 true)) else (tabardlaw1_NatRings.j1 kj4 l0 l1 l2 t102 t106 t110 t114 t118 bt122.1 true)) else (tabardlaw1_NatRings.j1 kj4 l0 l1 l2 t102 t106 t110 t114 t118 bt122.1 true))) = some r := H
    have A15 := Aside0.mk A150
    clear A150
    replace H := Option.bind_eq_some_iff.mp H
    obtain ⟨⟨t122,t125⟩,A160,H⟩ := H
    replace H : (if t105 = 0 then (if t109 = 0 then (if t113 = 0 then (if t117 = 0 then (if t121 = 0 then (tabardlaw1_NatRings.j1 kj4 l0 l1 l2 t102 t106 t110 t114 t118 t122 (t125 != 0)) else (tabardlaw1_NatRings.j1 kj4 l0 l1 l2 t102 t106 t110 t114 t118 t122 true)) else (tabardlaw1_NatRings.j1 kj4 l0 l1 l2 t102 t106 t110 t114 t118 t122 true)) else (tabardlaw1_NatRings.j1 kj4 l0 l1 l2 t102 t106 t110 t114 t118 t122 true)) else (tabardlaw1_NatRings.j1 kj4 l0 l1 l2 t102 t106 t110 t114 t118 t122 true)) else (tabardlaw1_NatRings.j1 kj4 l0 l1 l2 t102 t106 t110 t114 t118 t122 true)) = some r := H
    have A16 := Aside0.mk A160
    clear A160
    have HC17 := Aside0.mk H
    clear H
    go_upto_region 10 with (first | ((with_reducible refine gate_callee (f := 8) rfl ?_);refine goesL_ (some 59) rfl rfl Tryd.func8 (by kernel_rfl) rfl #[.slice A0 l0.length c0,.slice A1 l1.length c1] rfl am_ ?_;(with_reducible refine (nat_Add.calls kj4 (fun k_ => k_ < w.heap.size) _ _ l0 (fun k_ => k_ < w.heap.size) _ _ l1 t102 t105 _ ?side1 ?side2 A11.out).mono ?_);(case side1 => exact Kd.V_mk HC0.out (Kd.F_below (Kd.C_F (Kd.heap_int .u32) HR0.out) bl_));(case side2 => exact Kd.V_mk HC1.out (Kd.F_below (Kd.C_F (Kd.heap_int .u32) HR1.out) bl_));rintro e w18 ⟨v103,rfl,ho0,hb⟩;refine ⟨_,rfl,?_⟩;have HO104 := Aside0.mk (Kd.R_lower (Kd.R_mono (ok' := fun k_ => True) ho0 (fun _ hk_ => trivial)) (below_size bl_));replace HB := Aside0.mk (below_step bl_ hb);(try clear hb);(try clear hb2);(try clear hk);(try clear hi);(try clear ho0)) | ((with_reducible refine gate_callee (f := 8) rfl ?_);refine goesL_ (some 65) rfl rfl Tryd.func8 (by kernel_rfl) rfl #[.slice A1 l1.length c1,.slice A0 l0.length c0] rfl am_ ?_;(with_reducible refine (nat_Add.calls kj4 (fun k_ => k_ < w.heap.size) _ _ l1 (fun k_ => k_ < w.heap.size) _ _ l0 t106 t109 _ ?side1 ?side2 A12.out).mono ?_);(case side1 => exact Kd.V_mk HC1.out (Kd.F_below (Kd.C_F (Kd.heap_int .u32) HR1.out) bl_));(case side2 => exact Kd.V_mk HC0.out (Kd.F_below (Kd.C_F (Kd.heap_int .u32) HR0.out) bl_));rintro e w19 ⟨v107,rfl,ho0,hb⟩;refine ⟨_,rfl,?_⟩;have HO108 := Aside0.mk (Kd.R_lower (Kd.R_new' (Kd.R_mono (ok' := fun k_ => True) ho0 (fun _ hk_ => trivial)) (Kd.R_lt (ra_ HO104.out))) (below_size bl_));replace HO104 := Aside0.mk (Kd.R_elder' (ra_ HO104.out) (Kd.R_base ho0) hb);replace HB := Aside0.mk (below_step bl_ hb);(try clear hb);(try clear hb2);(try clear hk);(try clear hi);(try clear ho0)) | ((with_reducible refine gate_callee (f := 8) rfl ?_);refine goesL_ (some 71) rfl rfl Tryd.func8 (by kernel_rfl) rfl #[.slice A1 l1.length c1,.slice A2 l2.length c2] rfl am_ ?_;(with_reducible refine (nat_Add.calls kj4 (fun k_ => k_ < w.heap.size) _ _ l1 (fun k_ => k_ < w.heap.size) _ _ l2 t110 t113 _ ?side1 ?side2 A13.out).mono ?_);(case side1 => exact Kd.V_mk HC1.out (Kd.F_below (Kd.C_F (Kd.heap_int .u32) HR1.out) bl_));(case side2 => exact Kd.V_mk HC2.out (Kd.F_below (Kd.C_F (Kd.heap_int .u32) HR2.out) bl_));rintro e w20 ⟨v111,rfl,ho0,hb⟩;refine ⟨_,rfl,?_⟩;have HO112 := Aside0.mk (Kd.R_lower (Kd.R_new' (Kd.R_new' (Kd.R_mono (ok' := fun k_ => True) ho0 (fun _ hk_ => trivial)) (Kd.R_lt (ra_ HO104.out))) (Kd.R_lt (ra_ HO108.out))) (below_size bl_));replace HO104 := Aside0.mk (Kd.R_elder' (ra_ HO104.out) (Kd.R_base ho0) hb);replace HO108 := Aside0.mk (Kd.R_elder' (ra_ HO108.out) (Kd.R_base ho0) hb);replace HB := Aside0.mk (below_step bl_ hb);(try clear hb);(try clear hb2);(try clear hk);(try clear hi);(try clear ho0);obtain ⟨Ao21,co21,eo21⟩ := Kd.R_slice HO104.out;subst eo21) | ((with_reducible refine gate_callee (f := 8) rfl ?_);refine goesL_ (some 77) rfl rfl Tryd.func8 (by kernel_rfl) rfl #[.slice Ao21 t102.length co21,.slice A2 l2.length c2] rfl am_ ?_;(with_reducible refine (nat_Add.calls kj4 (fun k_ => some k_ = (.slice Ao21 t102.length co21 : Value).ownBlock) _ _ t102 (fun k_ => k_ < w.heap.size) _ _ l2 t114 t117 _ ?side1 ?side2 A14.out).mono ?_);(case side1 => exact Kd.R_V (Kd.R_tight rfl (HO104.out)));(case side2 => exact Kd.V_mk HC2.out (Kd.F_below (Kd.C_F (Kd.heap_int .u32) HR2.out) bl_));rintro e w22 ⟨v115,rfl,ho0,hb⟩;refine ⟨_,rfl,?_⟩;have HO116 := Aside0.mk (Kd.R_lower (Kd.R_new' (Kd.R_new' (Kd.R_new' (Kd.R_mono (ok' := fun k_ => True) ho0 (fun _ hk_ => trivial)) (Kd.R_lt (ra_ HO104.out))) (Kd.R_lt (ra_ HO108.out))) (Kd.R_lt (ra_ HO112.out))) (below_size bl_));replace HO104 := Aside0.mk (Kd.R_elder' (ra_ HO104.out) (Kd.R_base ho0) hb);replace HO108 := Aside0.mk (Kd.R_elder' (ra_ HO108.out) (Kd.R_base ho0) hb);replace HO112 := Aside0.mk (Kd.R_elder' (ra_ HO112.out) (Kd.R_base ho0) hb);replace HB := Aside0.mk (below_step bl_ hb);(try clear hb);(try clear hb2);(try clear hk);(try clear hi);(try clear ho0);obtain ⟨Ao23,co23,eo23⟩ := Kd.R_slice HO112.out;subst eo23) | ((with_reducible refine gate_callee (f := 8) rfl ?_);refine goesL_ (some 83) rfl rfl Tryd.func8 (by kernel_rfl) rfl #[.slice A0 l0.length c0,.slice Ao23 t110.length co23] rfl am_ ?_;(with_reducible refine (nat_Add.calls kj4 (fun k_ => k_ < w.heap.size) _ _ l0 (fun k_ => some k_ = (.slice Ao23 t110.length co23 : Value).ownBlock) _ _ t110 t118 t121 _ ?side1 ?side2 A15.out).mono ?_);(case side1 => exact Kd.V_mk HC0.out (Kd.F_below (Kd.C_F (Kd.heap_int .u32) HR0.out) bl_));(case side2 => exact Kd.R_V (Kd.R_tight rfl (HO112.out)));rintro e w24 ⟨v119,rfl,ho0,hb⟩;refine ⟨_,rfl,?_⟩;have HO120 := Aside0.mk (Kd.R_lower (Kd.R_new' (Kd.R_new' (Kd.R_new' (Kd.R_new' (Kd.R_mono (ok' := fun k_ => True) ho0 (fun _ hk_ => trivial)) (Kd.R_lt (ra_ HO104.out))) (Kd.R_lt (ra_ HO108.out))) (Kd.R_lt (ra_ HO112.out))) (Kd.R_lt (ra_ HO116.out))) (below_size bl_));replace HO104 := Aside0.mk (Kd.R_elder' (ra_ HO104.out) (Kd.R_base ho0) hb);replace HO108 := Aside0.mk (Kd.R_elder' (ra_ HO108.out) (Kd.R_base ho0) hb);replace HO112 := Aside0.mk (Kd.R_elder' (ra_ HO112.out) (Kd.R_base ho0) hb);replace HO116 := Aside0.mk (Kd.R_elder' (ra_ HO116.out) (Kd.R_base ho0) hb);replace HB := Aside0.mk (below_step bl_ hb);(try clear hb);(try clear hb2);(try clear hk);(try clear hi);(try clear ho0)) | ((with_reducible refine gate_callee (f := 9) rfl ?_);refine goesL_ (some 89) rfl rfl Tryd.func9 (by kernel_rfl) rfl #[.slice Ao21 t102.length co21,.slice A1 l1.length c1] rfl am_ ?_;(with_reducible refine (nat_Sub.calls kj4 (fun k_ => some k_ = (.slice Ao21 t102.length co21 : Value).ownBlock) _ _ t102 (fun k_ => k_ < w.heap.size) _ _ l1 t122 t125 _ ?side1 ?side2 A16.out).mono ?_);(case side1 => exact Kd.R_V (Kd.R_tight rfl (HO104.out)));(case side2 => exact Kd.V_mk HC1.out (Kd.F_below (Kd.C_F (Kd.heap_int .u32) HR1.out) bl_));rintro e w25 ⟨v123,rfl,ho0,hb⟩;refine ⟨_,rfl,?_⟩;have HO124 := Aside0.mk (Kd.R_lower (Kd.R_new' (Kd.R_new' (Kd.R_new' (Kd.R_new' (Kd.R_new' (Kd.R_mono (ok' := fun k_ => True) ho0 (fun _ hk_ => trivial)) (Kd.R_lt (ra_ HO104.out))) (Kd.R_lt (ra_ HO108.out))) (Kd.R_lt (ra_ HO112.out))) (Kd.R_lt (ra_ HO116.out))) (Kd.R_lt (ra_ HO120.out))) (below_size bl_));replace HO104 := Aside0.mk (Kd.R_elder' (ra_ HO104.out) (Kd.R_base ho0) hb);replace HO108 := Aside0.mk (Kd.R_elder' (ra_ HO108.out) (Kd.R_base ho0) hb);replace HO112 := Aside0.mk (Kd.R_elder' (ra_ HO112.out) (Kd.R_base ho0) hb);replace HO116 := Aside0.mk (Kd.R_elder' (ra_ HO116.out) (Kd.R_base ho0) hb);replace HO120 := Aside0.mk (Kd.R_elder' (ra_ HO120.out) (Kd.R_base ho0) hb);replace HB := Aside0.mk (below_step bl_ hb);(try clear hb);(try clear hb2);(try clear hk);(try clear hi);(try clear ho0)))
    (try simp only [Act.put,List.setIfInBounds_toArray,List.set_cons_zero,List.set_cons_succ])
    go_cut [113] (fun v113 wc => ∃ (kq : Nat) (x113_16 : Bool),v113 = .bool x113_16 ∧ Aside0 (tabardlaw1_NatRings.j1 kq l0 l1 l2 t102 t106 t110 t114 t118 t122 x113_16 = some r) ∧ Aside0 (kq ≤ kj4) ∧ Aside0 (Kd.R (Kd.int .u32) 43 wc w.heap.size (fun k_ => some k_ ≠ (v107 : Value).ownBlock ∧ some k_ ≠ ((.slice Ao23 t110.length co23) : Value).ownBlock ∧ some k_ ≠ (v115 : Value).ownBlock ∧ some k_ ≠ (v119 : Value).ownBlock ∧ some k_ ≠ (v123 : Value).ownBlock) (.slice Ao21 t102.length co21) t102) ∧ Aside0 (Kd.R (Kd.int .u32) 43 wc w.heap.size (fun k_ => some k_ ≠ ((.slice Ao21 t102.length co21) : Value).ownBlock ∧ some k_ ≠ ((.slice Ao23 t110.length co23) : Value).ownBlock ∧ some k_ ≠ (v115 : Value).ownBlock ∧ some k_ ≠ (v119 : Value).ownBlock ∧ some k_ ≠ (v123 : Value).ownBlock) v107 t106) ∧ Aside0 (Kd.R (Kd.int .u32) 43 wc w.heap.size (fun k_ => some k_ ≠ ((.slice Ao21 t102.length co21) : Value).ownBlock ∧ some k_ ≠ (v107 : Value).ownBlock ∧ some k_ ≠ (v115 : Value).ownBlock ∧ some k_ ≠ (v119 : Value).ownBlock ∧ some k_ ≠ (v123 : Value).ownBlock) (.slice Ao23 t110.length co23) t110) ∧ Aside0 (Kd.R (Kd.int .u32) 43 wc w.heap.size (fun k_ => some k_ ≠ ((.slice Ao21 t102.length co21) : Value).ownBlock ∧ some k_ ≠ (v107 : Value).ownBlock ∧ some k_ ≠ ((.slice Ao23 t110.length co23) : Value).ownBlock ∧ some k_ ≠ (v119 : Value).ownBlock ∧ some k_ ≠ (v123 : Value).ownBlock) v115 t114) ∧ Aside0 (Kd.R (Kd.int .u32) 43 wc w.heap.size (fun k_ => some k_ ≠ ((.slice Ao21 t102.length co21) : Value).ownBlock ∧ some k_ ≠ (v107 : Value).ownBlock ∧ some k_ ≠ ((.slice Ao23 t110.length co23) : Value).ownBlock ∧ some k_ ≠ (v115 : Value).ownBlock ∧ some k_ ≠ (v123 : Value).ownBlock) v119 t118) ∧ Aside0 (Kd.R (Kd.int .u32) 43 wc w.heap.size (fun k_ => some k_ ≠ ((.slice Ao21 t102.length co21) : Value).ownBlock ∧ some k_ ≠ (v107 : Value).ownBlock ∧ some k_ ≠ ((.slice Ao23 t110.length co23) : Value).ownBlock ∧ some k_ ≠ (v115 : Value).ownBlock ∧ some k_ ≠ (v119 : Value).ownBlock) v123 t122) ∧ Aside0 (Below w.heap.size w wc))
    case first => as_aux_lemma =>
     have H := HC17.out
     clear HC17
     by_cases c26 : t105 = 0
     ·rw [if_pos c26] at H
      have c26b0 : (t105 == 0) = true := beq_iff_eq.mpr c26
      have c26b1 : (t105 != 0) = false := bne_eq_false_iff_eq.mpr c26
      clear c26
      (first | rw [c26b0] | (simp only [i64_w,i32_w];rw [c26b0]) | rw [c26b1] | (simp only [i64_w,i32_w];rw [c26b1]) | skip)
      by_cases c27 : t109 = 0
      ·rw [if_pos c27] at H
       have c27b0 : (t109 == 0) = true := beq_iff_eq.mpr c27
       have c27b1 : (t109 != 0) = false := bne_eq_false_iff_eq.mpr c27
       clear c27
       by_cases c28 : t113 = 0
       ·rw [if_pos c28] at H
        have c28b0 : (t113 == 0) = true := beq_iff_eq.mpr c28
        have c28b1 : (t113 != 0) = false := bne_eq_false_iff_eq.mpr c28
        clear c28
        by_cases c29 : t117 = 0
        ·rw [if_pos c29] at H
         have c29b0 : (t117 == 0) = true := beq_iff_eq.mpr c29
         have c29b1 : (t117 != 0) = false := bne_eq_false_iff_eq.mpr c29
         clear c29
         by_cases c30 : t121 = 0
         ·rw [if_pos c30] at H
          have c30b0 : (t121 == 0) = true := beq_iff_eq.mpr c30
          have c30b1 : (t121 != 0) = false := bne_eq_false_iff_eq.mpr c30
          clear c30
          have H' := Aside0.mk H
          clear H
          go_wp2
          go_meet
          case rel => exact ⟨_,((t125 != 0)),(by first | rfl | (simp;done) | (simp [*];done)),H',⟨by have := HJ4.out;first | omega | exact Nat.le_refl _⟩,⟨by (with_reducible repeat (first | apply Kd.R_alloc | apply Kd.R_drewN | apply Kd.R_drew));exact Kd.R_mono HO104.out (fun _ hk => ⟨hk.1.1.1.1.2,⟨hk.1.1.1.2,⟨hk.1.1.2,⟨hk.1.2,hk.2⟩⟩⟩⟩)⟩,⟨by (with_reducible repeat (first | apply Kd.R_alloc | apply Kd.R_drewN | apply Kd.R_drew));exact Kd.R_mono HO108.out (fun _ hk => ⟨hk.1.1.1.1.2,⟨hk.1.1.1.2,⟨hk.1.1.2,⟨hk.1.2,hk.2⟩⟩⟩⟩)⟩,⟨by (with_reducible repeat (first | apply Kd.R_alloc | apply Kd.R_drewN | apply Kd.R_drew));exact Kd.R_mono HO112.out (fun _ hk => ⟨hk.1.1.1.1.2,⟨hk.1.1.1.2,⟨hk.1.1.2,⟨hk.1.2,hk.2⟩⟩⟩⟩)⟩,⟨by (with_reducible repeat (first | apply Kd.R_alloc | apply Kd.R_drewN | apply Kd.R_drew));exact Kd.R_mono HO116.out (fun _ hk => ⟨hk.1.1.1.1.2,⟨hk.1.1.1.2,⟨hk.1.1.2,⟨hk.1.2,hk.2⟩⟩⟩⟩)⟩,⟨by (with_reducible repeat (first | apply Kd.R_alloc | apply Kd.R_drewN | apply Kd.R_drew));exact Kd.R_mono HO120.out (fun _ hk => ⟨hk.1.1.1.1.2,⟨hk.1.1.1.2,⟨hk.1.1.2,⟨hk.1.2,hk.2⟩⟩⟩⟩)⟩,⟨by (with_reducible repeat (first | apply Kd.R_alloc | apply Kd.R_drewN | apply Kd.R_drew));exact Kd.R_mono HO124.out (fun _ hk => ⟨hk.1.1.1.1.2,⟨hk.1.1.1.2,⟨hk.1.1.2,⟨hk.1.2,hk.2⟩⟩⟩⟩)⟩,⟨by repeat (first | (with_reducible first | exact HB.out | apply below_alloc | apply pw_below_drewN | apply below_drew1) | exact HB.out)⟩⟩
         ·rw [if_neg c30] at H
          have c30b0 : (t121 == 0) = false := beq_eq_false_iff_ne.mpr c30
          have c30b1 : (t121 != 0) = true := bne_iff_ne.mpr c30
          have H' := Aside0.mk H
          clear H
          go_wp2
          go_meet
          case rel => exact ⟨_,(true),(by first | rfl | (simp;done) | (simp [*];done)),H',⟨by have := HJ4.out;first | omega | exact Nat.le_refl _⟩,⟨by (with_reducible repeat (first | apply Kd.R_alloc | apply Kd.R_drewN | apply Kd.R_drew));exact Kd.R_mono HO104.out (fun _ hk => ⟨hk.1.1.1.1.2,⟨hk.1.1.1.2,⟨hk.1.1.2,⟨hk.1.2,hk.2⟩⟩⟩⟩)⟩,⟨by (with_reducible repeat (first | apply Kd.R_alloc | apply Kd.R_drewN | apply Kd.R_drew));exact Kd.R_mono HO108.out (fun _ hk => ⟨hk.1.1.1.1.2,⟨hk.1.1.1.2,⟨hk.1.1.2,⟨hk.1.2,hk.2⟩⟩⟩⟩)⟩,⟨by (with_reducible repeat (first | apply Kd.R_alloc | apply Kd.R_drewN | apply Kd.R_drew));exact Kd.R_mono HO112.out (fun _ hk => ⟨hk.1.1.1.1.2,⟨hk.1.1.1.2,⟨hk.1.1.2,⟨hk.1.2,hk.2⟩⟩⟩⟩)⟩,⟨by (with_reducible repeat (first | apply Kd.R_alloc | apply Kd.R_drewN | apply Kd.R_drew));exact Kd.R_mono HO116.out (fun _ hk => ⟨hk.1.1.1.1.2,⟨hk.1.1.1.2,⟨hk.1.1.2,⟨hk.1.2,hk.2⟩⟩⟩⟩)⟩,⟨by (with_reducible repeat (first | apply Kd.R_alloc | apply Kd.R_drewN | apply Kd.R_drew));exact Kd.R_mono HO120.out (fun _ hk => ⟨hk.1.1.1.1.2,⟨hk.1.1.1.2,⟨hk.1.1.2,⟨hk.1.2,hk.2⟩⟩⟩⟩)⟩,⟨by (with_reducible repeat (first | apply Kd.R_alloc | apply Kd.R_drewN | apply Kd.R_drew));exact Kd.R_mono HO124.out (fun _ hk => ⟨hk.1.1.1.1.2,⟨hk.1.1.1.2,⟨hk.1.1.2,⟨hk.1.2,hk.2⟩⟩⟩⟩)⟩,⟨by repeat (first | (with_reducible first | exact HB.out | apply below_alloc | apply pw_below_drewN | apply below_drew1) | exact HB.out)⟩⟩
        ·rw [if_neg c29] at H
         have c29b0 : (t117 == 0) = false := beq_eq_false_iff_ne.mpr c29
         have c29b1 : (t117 != 0) = true := bne_iff_ne.mpr c29
         have H' := Aside0.mk H
         clear H
         go_wp2
         go_meet
         case rel => exact ⟨_,(true),(by first | rfl | (simp;done) | (simp [*];done)),H',⟨by have := HJ4.out;first | omega | exact Nat.le_refl _⟩,⟨by (with_reducible repeat (first | apply Kd.R_alloc | apply Kd.R_drewN | apply Kd.R_drew));exact Kd.R_mono HO104.out (fun _ hk => ⟨hk.1.1.1.1.2,⟨hk.1.1.1.2,⟨hk.1.1.2,⟨hk.1.2,hk.2⟩⟩⟩⟩)⟩,⟨by (with_reducible repeat (first | apply Kd.R_alloc | apply Kd.R_drewN | apply Kd.R_drew));exact Kd.R_mono HO108.out (fun _ hk => ⟨hk.1.1.1.1.2,⟨hk.1.1.1.2,⟨hk.1.1.2,⟨hk.1.2,hk.2⟩⟩⟩⟩)⟩,⟨by (with_reducible repeat (first | apply Kd.R_alloc | apply Kd.R_drewN | apply Kd.R_drew));exact Kd.R_mono HO112.out (fun _ hk => ⟨hk.1.1.1.1.2,⟨hk.1.1.1.2,⟨hk.1.1.2,⟨hk.1.2,hk.2⟩⟩⟩⟩)⟩,⟨by (with_reducible repeat (first | apply Kd.R_alloc | apply Kd.R_drewN | apply Kd.R_drew));exact Kd.R_mono HO116.out (fun _ hk => ⟨hk.1.1.1.1.2,⟨hk.1.1.1.2,⟨hk.1.1.2,⟨hk.1.2,hk.2⟩⟩⟩⟩)⟩,⟨by (with_reducible repeat (first | apply Kd.R_alloc | apply Kd.R_drewN | apply Kd.R_drew));exact Kd.R_mono HO120.out (fun _ hk => ⟨hk.1.1.1.1.2,⟨hk.1.1.1.2,⟨hk.1.1.2,⟨hk.1.2,hk.2⟩⟩⟩⟩)⟩,⟨by (with_reducible repeat (first | apply Kd.R_alloc | apply Kd.R_drewN | apply Kd.R_drew));exact Kd.R_mono HO124.out (fun _ hk => ⟨hk.1.1.1.1.2,⟨hk.1.1.1.2,⟨hk.1.1.2,⟨hk.1.2,hk.2⟩⟩⟩⟩)⟩,⟨by repeat (first | (with_reducible first | exact HB.out | apply below_alloc | apply pw_below_drewN | apply below_drew1) | exact HB.out)⟩⟩
       ·rw [if_neg c28] at H
        have c28b0 : (t113 == 0) = false := beq_eq_false_iff_ne.mpr c28
        have c28b1 : (t113 != 0) = true := bne_iff_ne.mpr c28
        have H' := Aside0.mk H
        clear H
        go_wp2
        go_meet
        case rel => exact ⟨_,(true),(by first | rfl | (simp;done) | (simp [*];done)),H',⟨by have := HJ4.out;first | omega | exact Nat.le_refl _⟩,⟨by (with_reducible repeat (first | apply Kd.R_alloc | apply Kd.R_drewN | apply Kd.R_drew));exact Kd.R_mono HO104.out (fun _ hk => ⟨hk.1.1.1.1.2,⟨hk.1.1.1.2,⟨hk.1.1.2,⟨hk.1.2,hk.2⟩⟩⟩⟩)⟩,⟨by (with_reducible repeat (first | apply Kd.R_alloc | apply Kd.R_drewN | apply Kd.R_drew));exact Kd.R_mono HO108.out (fun _ hk => ⟨hk.1.1.1.1.2,⟨hk.1.1.1.2,⟨hk.1.1.2,⟨hk.1.2,hk.2⟩⟩⟩⟩)⟩,⟨by (with_reducible repeat (first | apply Kd.R_alloc | apply Kd.R_drewN | apply Kd.R_drew));exact Kd.R_mono HO112.out (fun _ hk => ⟨hk.1.1.1.1.2,⟨hk.1.1.1.2,⟨hk.1.1.2,⟨hk.1.2,hk.2⟩⟩⟩⟩)⟩,⟨by (with_reducible repeat (first | apply Kd.R_alloc | apply Kd.R_drewN | apply Kd.R_drew));exact Kd.R_mono HO116.out (fun _ hk => ⟨hk.1.1.1.1.2,⟨hk.1.1.1.2,⟨hk.1.1.2,⟨hk.1.2,hk.2⟩⟩⟩⟩)⟩,⟨by (with_reducible repeat (first | apply Kd.R_alloc | apply Kd.R_drewN | apply Kd.R_drew));exact Kd.R_mono HO120.out (fun _ hk => ⟨hk.1.1.1.1.2,⟨hk.1.1.1.2,⟨hk.1.1.2,⟨hk.1.2,hk.2⟩⟩⟩⟩)⟩,⟨by (with_reducible repeat (first | apply Kd.R_alloc | apply Kd.R_drewN | apply Kd.R_drew));exact Kd.R_mono HO124.out (fun _ hk => ⟨hk.1.1.1.1.2,⟨hk.1.1.1.2,⟨hk.1.1.2,⟨hk.1.2,hk.2⟩⟩⟩⟩)⟩,⟨by repeat (first | (with_reducible first | exact HB.out | apply below_alloc | apply pw_below_drewN | apply below_drew1) | exact HB.out)⟩⟩
      ·rw [if_neg c27] at H
       have c27b0 : (t109 == 0) = false := beq_eq_false_iff_ne.mpr c27
       have c27b1 : (t109 != 0) = true := bne_iff_ne.mpr c27
       have H' := Aside0.mk H
       clear H
       go_wp2
       go_meet
       case rel => exact ⟨_,(true),(by first | rfl | (simp;done) | (simp [*];done)),H',⟨by have := HJ4.out;first | omega | exact Nat.le_refl _⟩,⟨by (with_reducible repeat (first | apply Kd.R_alloc | apply Kd.R_drewN | apply Kd.R_drew));exact Kd.R_mono HO104.out (fun _ hk => ⟨hk.1.1.1.1.2,⟨hk.1.1.1.2,⟨hk.1.1.2,⟨hk.1.2,hk.2⟩⟩⟩⟩)⟩,⟨by (with_reducible repeat (first | apply Kd.R_alloc | apply Kd.R_drewN | apply Kd.R_drew));exact Kd.R_mono HO108.out (fun _ hk => ⟨hk.1.1.1.1.2,⟨hk.1.1.1.2,⟨hk.1.1.2,⟨hk.1.2,hk.2⟩⟩⟩⟩)⟩,⟨by (with_reducible repeat (first | apply Kd.R_alloc | apply Kd.R_drewN | apply Kd.R_drew));exact Kd.R_mono HO112.out (fun _ hk => ⟨hk.1.1.1.1.2,⟨hk.1.1.1.2,⟨hk.1.1.2,⟨hk.1.2,hk.2⟩⟩⟩⟩)⟩,⟨by (with_reducible repeat (first | apply Kd.R_alloc | apply Kd.R_drewN | apply Kd.R_drew));exact Kd.R_mono HO116.out (fun _ hk => ⟨hk.1.1.1.1.2,⟨hk.1.1.1.2,⟨hk.1.1.2,⟨hk.1.2,hk.2⟩⟩⟩⟩)⟩,⟨by (with_reducible repeat (first | apply Kd.R_alloc | apply Kd.R_drewN | apply Kd.R_drew));exact Kd.R_mono HO120.out (fun _ hk => ⟨hk.1.1.1.1.2,⟨hk.1.1.1.2,⟨hk.1.1.2,⟨hk.1.2,hk.2⟩⟩⟩⟩)⟩,⟨by (with_reducible repeat (first | apply Kd.R_alloc | apply Kd.R_drewN | apply Kd.R_drew));exact Kd.R_mono HO124.out (fun _ hk => ⟨hk.1.1.1.1.2,⟨hk.1.1.1.2,⟨hk.1.1.2,⟨hk.1.2,hk.2⟩⟩⟩⟩)⟩,⟨by repeat (first | (with_reducible first | exact HB.out | apply below_alloc | apply pw_below_drewN | apply below_drew1) | exact HB.out)⟩⟩
     ·rw [if_neg c26] at H
      have c26b0 : (t105 == 0) = false := beq_eq_false_iff_ne.mpr c26
      have c26b1 : (t105 != 0) = true := bne_iff_ne.mpr c26
      (first | rw [c26b0] | (simp only [i64_w,i32_w];rw [c26b0]) | rw [c26b1] | (simp only [i64_w,i32_w];rw [c26b1]) | skip)
      have H' := Aside0.mk H
      clear H
      go_wp2
      go_meet
      case rel => exact ⟨_,(true),(by first | rfl | (simp;done) | (simp [*];done)),H',⟨by have := HJ4.out;first | omega | exact Nat.le_refl _⟩,⟨by (with_reducible repeat (first | apply Kd.R_alloc | apply Kd.R_drewN | apply Kd.R_drew));exact Kd.R_mono HO104.out (fun _ hk => ⟨hk.1.1.1.1.2,⟨hk.1.1.1.2,⟨hk.1.1.2,⟨hk.1.2,hk.2⟩⟩⟩⟩)⟩,⟨by (with_reducible repeat (first | apply Kd.R_alloc | apply Kd.R_drewN | apply Kd.R_drew));exact Kd.R_mono HO108.out (fun _ hk => ⟨hk.1.1.1.1.2,⟨hk.1.1.1.2,⟨hk.1.1.2,⟨hk.1.2,hk.2⟩⟩⟩⟩)⟩,⟨by (with_reducible repeat (first | apply Kd.R_alloc | apply Kd.R_drewN | apply Kd.R_drew));exact Kd.R_mono HO112.out (fun _ hk => ⟨hk.1.1.1.1.2,⟨hk.1.1.1.2,⟨hk.1.1.2,⟨hk.1.2,hk.2⟩⟩⟩⟩)⟩,⟨by (with_reducible repeat (first | apply Kd.R_alloc | apply Kd.R_drewN | apply Kd.R_drew));exact Kd.R_mono HO116.out (fun _ hk => ⟨hk.1.1.1.1.2,⟨hk.1.1.1.2,⟨hk.1.1.2,⟨hk.1.2,hk.2⟩⟩⟩⟩)⟩,⟨by (with_reducible repeat (first | apply Kd.R_alloc | apply Kd.R_drewN | apply Kd.R_drew));exact Kd.R_mono HO120.out (fun _ hk => ⟨hk.1.1.1.1.2,⟨hk.1.1.1.2,⟨hk.1.1.2,⟨hk.1.2,hk.2⟩⟩⟩⟩)⟩,⟨by (with_reducible repeat (first | apply Kd.R_alloc | apply Kd.R_drewN | apply Kd.R_drew));exact Kd.R_mono HO124.out (fun _ hk => ⟨hk.1.1.1.1.2,⟨hk.1.1.1.2,⟨hk.1.1.2,⟨hk.1.2,hk.2⟩⟩⟩⟩)⟩,⟨by repeat (first | (with_reducible first | exact HB.out | apply below_alloc | apply pw_below_drewN | apply below_drew1) | exact HB.out)⟩⟩
    case rest => as_aux_lemma =>
     clear HC17
     try clear c1
     try clear c2
     try clear p2
     try clear c3
     try clear c7
     try clear c8
     try clear c8b0
     try clear c8b1
     try clear c9
     try clear c9b0
     try clear c9b1
     try clear c10
     try clear c26
     try clear c26b0
     try clear c26b1
     try clear c27
     try clear c27b0
     try clear c27b1
     try clear c28
     try clear c28b0
     try clear c28b1
     try clear c29
     try clear c29b0
     try clear c29b1
     try clear c30
     try clear c30b0
     try clear c30b1
     try clear p2
     obtain ⟨kq,x113_16,rfl,HA,HJ16,HO_8,HO_10,HO_12,HO_14,HO_16,HO_18,HB⟩ := hcut
     cases kq with
     | zero => exact absurd HA.out (by simp [tabardlaw1_NatRings.j1])
     | succ kj16 =>
      have H := HA.out
      clear HA
      simp only [tabardlaw1_NatRings.j1] at H
      by_cases c31 : x113_16 = true
      ·subst c31
       have H1 : (some false) = some r := by rw [if_pos rfl] at H;exact H
       clear H
       have H := H1
       clear H1
       obtain rfl := Option.some.inj H
       go_wp2
       go_ret
       exact ⟨by first | rfl | (simp [errW_none,errW_some] <;> rfl) | (simp [*,errW_none,errW_some] <;> rfl),by repeat (first | (with_reducible first | exact HB.out | apply below_alloc | apply pw_below_drewN | apply below_drew1) | exact HB.out)⟩
      ·replace c31 := Bool.eq_false_iff.mpr c31
       subst c31
       have H1 : ((tabardlaw1_equal.f kj16 t102 t106).bind fun t126 => (if t126 = true then ((tabardlaw1_equal.f kj16 t114 t118).bind fun t127 => (if t127 = true then ((nat_Trim.f kj16 l0).bind fun t128 => ((tabardlaw1_equal.f kj16 t122 t128).bind fun t131 => (tabardlaw1_NatRings.j2 kj16 l0 l1 l2 t110 t131))) else (tabardlaw1_NatRings.j2 kj16 l0 l1 l2 t110 false))) else (tabardlaw1_NatRings.j2 kj16 l0 l1 l2 t110 false))) = some r := by rw [if_neg (show ¬ (false = true) by decide)] at H;exact H
       clear H
       have H := H1
       clear H1
       have HC32 := Aside0.mk H
       clear H
       go_upto_region 12 with (fail)
       go_cut [20] (fun v20 wc => ∃ (kq : Nat) (x20_31 : Bool),v20 = .bool x20_31 ∧ Aside0 (tabardlaw1_NatRings.j2 kq l0 l1 l2 t110 x20_31 = some r) ∧ Aside0 (kq ≤ kj16) ∧ Aside0 (Kd.R (Kd.int .u32) 43 wc w.heap.size (fun _ => True) (.slice Ao23 t110.length co23) t110) ∧ Aside0 (Below w.heap.size w wc))
       case first => as_aux_lemma =>
        have H := HC32.out
        clear HC32
        replace H := Option.bind_eq_some_iff.mp H
        obtain ⟨t126,A330,H⟩ := H
        replace H : (if t126 = true then ((tabardlaw1_equal.f kj16 t114 t118).bind fun t127 => (if t127 = true then ((nat_Trim.f kj16 l0).bind fun t128 => ((tabardlaw1_equal.f kj16 t122 t128).bind fun t131 => (tabardlaw1_NatRings.j2 kj16 l0 l1 l2 t110 t131))) else (tabardlaw1_NatRings.j2 kj16 l0 l1 l2 t110 false))) else (tabardlaw1_NatRings.j2 kj16 l0 l1 l2 t110 false)) = some r := H
        have A33 := Aside0.mk A330
        clear A330
        by_cases c34 : t126 = true
        ·subst c34
         have H1 : ((tabardlaw1_equal.f kj16 t114 t118).bind fun t127 => (if t127 = true then ((nat_Trim.f kj16 l0).bind fun t128 => ((tabardlaw1_equal.f kj16 t122 t128).bind fun t131 => (tabardlaw1_NatRings.j2 kj16 l0 l1 l2 t110 t131))) else (tabardlaw1_NatRings.j2 kj16 l0 l1 l2 t110 false))) = some r := by rw [if_pos rfl] at H;exact H
         clear H
         have H := H1
         clear H1
         replace H := Option.bind_eq_some_iff.mp H
         obtain ⟨t127,A350,H⟩ := H
         replace H : (if t127 = true then ((nat_Trim.f kj16 l0).bind fun t128 => ((tabardlaw1_equal.f kj16 t122 t128).bind fun t131 => (tabardlaw1_NatRings.j2 kj16 l0 l1 l2 t110 t131))) else (tabardlaw1_NatRings.j2 kj16 l0 l1 l2 t110 false)) = some r := H
         have A35 := Aside0.mk A350
         clear A350
         by_cases c36 : t127 = true
         ·subst c36
          have H1 : ((nat_Trim.f kj16 l0).bind fun t128 => ((tabardlaw1_equal.f kj16 t122 t128).bind fun t131 => (tabardlaw1_NatRings.j2 kj16 l0 l1 l2 t110 t131))) = some r := by rw [if_pos rfl] at H;exact H
          clear H
          have H := H1
          clear H1
          replace H := Option.bind_eq_some_iff.mp H
          obtain ⟨t128,A370,H⟩ := H
          replace H : ((tabardlaw1_equal.f kj16 t122 t128).bind fun t131 => (tabardlaw1_NatRings.j2 kj16 l0 l1 l2 t110 t131)) = some r := H
          have A37 := Aside0.mk A370
          clear A370
          replace H := Option.bind_eq_some_iff.mp H
          obtain ⟨t131,A380,H⟩ := H
          replace H : (tabardlaw1_NatRings.j2 kj16 l0 l1 l2 t110 t131) = some r := H
          have A38 := Aside0.mk A380
          clear A380
          have H' := Aside0.mk H
          clear H
          obtain ⟨Ao39,co39,eo39⟩ := Kd.R_slice HO_10.out
          subst eo39
          go_wp2_with (first | ((with_reducible refine gate_callee (f := 10) rfl ?_);refine goesL_ (some 116) rfl rfl Tryd.func10 (by kernel_rfl) rfl #[.slice Ao21 t102.length co21,.slice Ao39 t106.length co39] rfl am_ ?_;(with_reducible refine (tabardlaw1_equal.calls kj16 _ _ t102 _ _ t106 true _ ?side1 ?side2 ?side3 ?side4 A33.out).mono ?_);(case side1 => exact ca_ (Kd.R_reads' HO_8.out).2.2);(case side2 => exact (Kd.R_reads' HO_8.out).2.1);(case side3 => exact ca_ (Kd.R_reads' HO_10.out).2.2);(case side4 => exact (Kd.R_reads' HO_10.out).2.1);rintro e w' ⟨rfl,⟨nd,rfl⟩⟩;refine ⟨_,rfl,?_⟩;obtain ⟨Ao40,co40,eo40⟩ := Kd.R_slice HO_14.out;subst eo40;obtain ⟨Ao41,co41,eo41⟩ := Kd.R_slice HO_16.out;subst eo41) | (go_at_call 10;(with_reducible refine (tabardlaw1_equal.calls kj16 _ _ t114 _ _ t118 true _ ?side1 ?side2 ?side3 ?side4 A35.out).mono ?_);(case side1 => exact ca_ (Kd.R_reads' HO_14.out).2.2);(case side2 => exact (Kd.R_reads' HO_14.out).2.1);(case side3 => exact ca_ (Kd.R_reads' HO_16.out).2.2);(case side4 => exact (Kd.R_reads' HO_16.out).2.1);rintro e w' ⟨rfl,⟨nd,rfl⟩⟩) | (go_at_call 11;(with_reducible refine (nat_Trim.calls kj16 _ _ l0 t128 _ ?side1 ?side2 A37.out).mono ?_);(case side1 => exact ca_ (Kd.C_below HR0.out bl_));(case side2 => exact HC0.out);rintro e w42 ⟨v129,rfl,ho0,hb⟩;have HO130 := Aside0.mk (Kd.R_lower (Kd.R_new' (Kd.R_new' (Kd.R_new' (Kd.R_new' (Kd.R_new' (Kd.R_new' ho0 (Kd.R_lt (ra_ HO_8.out))) (Kd.R_lt (ra_ HO_10.out))) (Kd.R_lt (ra_ HO_12.out))) (Kd.R_lt (ra_ HO_14.out))) (Kd.R_lt (ra_ HO_16.out))) (Kd.R_lt (ra_ HO_18.out))) (below_size bl_));replace HO_8 := Aside0.mk (Kd.R_elder' (ra_ HO_8.out) (Kd.R_base ho0) hb);replace HO_10 := Aside0.mk (Kd.R_elder' (ra_ HO_10.out) (Kd.R_base ho0) hb);replace HO_12 := Aside0.mk (Kd.R_elder' (ra_ HO_12.out) (Kd.R_base ho0) hb);replace HO_14 := Aside0.mk (Kd.R_elder' (ra_ HO_14.out) (Kd.R_base ho0) hb);replace HO_16 := Aside0.mk (Kd.R_elder' (ra_ HO_16.out) (Kd.R_base ho0) hb);replace HO_18 := Aside0.mk (Kd.R_elder' (ra_ HO_18.out) (Kd.R_base ho0) hb);replace HB := Aside0.mk (below_step bl_ hb);(try clear hb);(try clear hb2);(try clear hk);(try clear hi);(try clear ho0);obtain ⟨Ao43,co43,eo43⟩ := Kd.R_slice HO_18.out;subst eo43;obtain ⟨Ao44,co44,eo44⟩ := Kd.R_slice HO130.out;subst eo44) | (go_at_call 10;(with_reducible refine (tabardlaw1_equal.calls kj16 _ _ t122 _ _ t128 t131 _ ?side1 ?side2 ?side3 ?side4 A38.out).mono ?_);(case side1 => exact ca_ (Kd.R_reads' HO_18.out).2.2);(case side2 => exact (Kd.R_reads' HO_18.out).2.1);(case side3 => exact ca_ (Kd.R_reads' HO130.out).2.2);(case side4 => exact (Kd.R_reads' HO130.out).2.1);rintro e w' ⟨rfl,⟨nd,rfl⟩⟩))
          go_meet
          case rel => exact ⟨_,(t131),(by first | rfl | (simp;done) | (simp [*];done)),H',⟨by have := HJ4.out;have := HJ16.out;first | omega | exact Nat.le_refl _⟩,⟨by (with_reducible repeat (first | apply Kd.R_alloc | apply Kd.R_drewN | apply Kd.R_drew));exact Kd.R_mono HO_12.out (fun _ hk => trivial)⟩,⟨by repeat (first | (with_reducible first | exact HB.out | apply below_alloc | apply pw_below_drewN | apply below_drew1) | exact HB.out)⟩⟩
         ·replace c36 := Bool.eq_false_iff.mpr c36
          subst c36
          have H1 : (tabardlaw1_NatRings.j2 kj16 l0 l1 l2 t110 false) = some r := by rw [if_neg (show ¬ (false = true) by decide)] at H;exact H
          clear H
          have H := H1
          clear H1
          have H' := Aside0.mk H
          clear H
          obtain ⟨Ao45,co45,eo45⟩ := Kd.R_slice HO_10.out
          subst eo45
          go_wp2_with (first | ((with_reducible refine gate_callee (f := 10) rfl ?_);refine goesL_ (some 116) rfl rfl Tryd.func10 (by kernel_rfl) rfl #[.slice Ao21 t102.length co21,.slice Ao45 t106.length co45] rfl am_ ?_;(with_reducible refine (tabardlaw1_equal.calls kj16 _ _ t102 _ _ t106 true _ ?side1 ?side2 ?side3 ?side4 A33.out).mono ?_);(case side1 => exact ca_ (Kd.R_reads' HO_8.out).2.2);(case side2 => exact (Kd.R_reads' HO_8.out).2.1);(case side3 => exact ca_ (Kd.R_reads' HO_10.out).2.2);(case side4 => exact (Kd.R_reads' HO_10.out).2.1);rintro e w' ⟨rfl,⟨nd,rfl⟩⟩;refine ⟨_,rfl,?_⟩;obtain ⟨Ao46,co46,eo46⟩ := Kd.R_slice HO_14.out;subst eo46;obtain ⟨Ao47,co47,eo47⟩ := Kd.R_slice HO_16.out;subst eo47) | (go_at_call 10;(with_reducible refine (tabardlaw1_equal.calls kj16 _ _ t114 _ _ t118 false _ ?side1 ?side2 ?side3 ?side4 A35.out).mono ?_);(case side1 => exact ca_ (Kd.R_reads' HO_14.out).2.2);(case side2 => exact (Kd.R_reads' HO_14.out).2.1);(case side3 => exact ca_ (Kd.R_reads' HO_16.out).2.2);(case side4 => exact (Kd.R_reads' HO_16.out).2.1);rintro e w' ⟨rfl,⟨nd,rfl⟩⟩))
          go_meet
          case rel => exact ⟨_,(false),(by first | rfl | (simp;done) | (simp [*];done)),H',⟨by have := HJ4.out;have := HJ16.out;first | omega | exact Nat.le_refl _⟩,⟨by (with_reducible repeat (first | apply Kd.R_alloc | apply Kd.R_drewN | apply Kd.R_drew));exact Kd.R_mono HO_12.out (fun _ hk => trivial)⟩,⟨by repeat (first | (with_reducible first | exact HB.out | apply below_alloc | apply pw_below_drewN | apply below_drew1) | exact HB.out)⟩⟩
        ·replace c34 := Bool.eq_false_iff.mpr c34
         subst c34
         have H1 : (tabardlaw1_NatRings.j2 kj16 l0 l1 l2 t110 false) = some r := by rw [if_neg (show ¬ (false = true) by decide)] at H;exact H
         clear H
         have H := H1
         clear H1
         have H' := Aside0.mk H
         clear H
         obtain ⟨Ao48,co48,eo48⟩ := Kd.R_slice HO_10.out
         subst eo48
         go_wp2_with (first | ((with_reducible refine gate_callee (f := 10) rfl ?_);refine goesL_ (some 116) rfl rfl Tryd.func10 (by kernel_rfl) rfl #[.slice Ao21 t102.length co21,.slice Ao48 t106.length co48] rfl am_ ?_;(with_reducible refine (tabardlaw1_equal.calls kj16 _ _ t102 _ _ t106 false _ ?side1 ?side2 ?side3 ?side4 A33.out).mono ?_);(case side1 => exact ca_ (Kd.R_reads' HO_8.out).2.2);(case side2 => exact (Kd.R_reads' HO_8.out).2.1);(case side3 => exact ca_ (Kd.R_reads' HO_10.out).2.2);(case side4 => exact (Kd.R_reads' HO_10.out).2.1);rintro e w' ⟨rfl,⟨nd,rfl⟩⟩;refine ⟨_,rfl,?_⟩))
         go_meet
         case rel => exact ⟨_,(false),(by first | rfl | (simp;done) | (simp [*];done)),H',⟨by have := HJ4.out;have := HJ16.out;first | omega | exact Nat.le_refl _⟩,⟨by (with_reducible repeat (first | apply Kd.R_alloc | apply Kd.R_drewN | apply Kd.R_drew));exact Kd.R_mono HO_12.out (fun _ hk => trivial)⟩,⟨by repeat (first | (with_reducible first | exact HB.out | apply below_alloc | apply pw_below_drewN | apply below_drew1) | exact HB.out)⟩⟩
       case rest => as_aux_lemma =>
        clear HC32
        try clear c1
        try clear c2
        try clear p2
        try clear c3
        try clear c7
        try clear c8
        try clear c8b0
        try clear c8b1
        try clear c9
        try clear c9b0
        try clear c9b1
        try clear c10
        try clear c26
        try clear c26b0
        try clear c26b1
        try clear c27
        try clear c27b0
        try clear c27b1
        try clear c28
        try clear c28b0
        try clear c28b1
        try clear c29
        try clear c29b0
        try clear c29b1
        try clear c30
        try clear c30b0
        try clear c30b1
        try clear c31
        try clear c34
        try clear c36
        try clear p2
        obtain ⟨kq,x20_31,rfl,HA,HJ31,HO_12,HB⟩ := hcut
        cases kq with
        | zero => exact absurd HA.out (by simp [tabardlaw1_NatRings.j2])
        | succ kj31 =>
         have H := HA.out
         clear HA
         simp only [tabardlaw1_NatRings.j2] at H
         replace H := Option.bind_eq_some_iff.mp H
         obtain ⟨⟨t132,t135⟩,A490,H⟩ := H
         replace H : ((nat_Mul.f kj31 l1 l0).bind fun bt136 => ((nat_Mul.f kj31 l0 t110).bind fun bt140 => ((nat_Mul.f kj31 l0 l2).bind fun bt144 => ((nat_Add.f kj31 t132 bt144.1).bind fun bt148 => ((nat_Mul.f kj31 t132 l2).bind fun bt152 => ((nat_Mul.f kj31 l1 l2).bind fun bt156 => ((nat_Mul.f kj31 l0 bt156.1).bind fun bt160 => (if t135 = 0 then (if bt136.2 = 0 then (if bt140.2 = 0 then (if bt144.2 = 0 then (if bt148.2 = 0 then (if bt152.2 = 0 then (if bt156.2 = 0 then (tabardlaw1_NatRings.j3 kj31 x20_31 t132 bt136.1 bt140.1 bt148.1 bt152.1 bt160.1 (bt160.2 != 0)) else (tabardlaw1_NatRings.j3 kj31 x20_31 t132 bt136.1 bt140.1 bt148.1 bt152.1 bt160.1 true)) else (tabardlaw1_NatRings.j3 kj31 x20_31 t132 bt136.1 bt140.1 bt148.1 bt152.1 bt160.1 true)) else (tabardlaw1_NatRings.j3 kj31 x20_31 t132 bt136.1 bt140.1 bt148.1 bt152.1 bt160.1 true)) else (tabardlaw1_NatRings.j3 kj31 x20_31 t132 bt136.1 bt140.1 bt148.1 bt152.1 bt160.1 true)) else (tabardlaw1_NatRings.j3 kj31 x20_31 t132 bt136.1 bt140.1 bt148.1 bt152.1 bt160.1 true)) else (tabardlaw1_NatRings.j3 kj31 x20_31 t132 bt136.1 bt140.1 bt148.1 bt152.1 bt160.1 true)) else (tabardlaw1_NatRings.j3 kj31 x20_31 t132 bt136.1 bt140.1 bt148.1 bt152.1 bt160.1 true))))))))) = some r := H
         have A49 := Aside0.mk A490
         clear A490
         replace H := Option.bind_eq_some_iff.mp H
         obtain ⟨⟨t136,t139⟩,A500,H⟩ := H
         replace H : ((nat_Mul.f kj31 l0 t110).bind fun bt140 => ((nat_Mul.f kj31 l0 l2).bind fun bt144 => ((nat_Add.f kj31 t132 bt144.1).bind fun bt148 => ((nat_Mul.f kj31 t132 l2).bind fun bt152 => ((nat_Mul.f kj31 l1 l2).bind fun bt156 => ((nat_Mul.f kj31 l0 bt156.1).bind fun bt160 => (if t135 = 0 then (if t139 = 0 then (if bt140.2 = 0 then (if bt144.2 = 0 then (if bt148.2 = 0 then (if bt152.2 = 0 then (if bt156.2 = 0 then (tabardlaw1_NatRings.j3 kj31 x20_31 t132 t136 bt140.1 bt148.1 bt152.1 bt160.1 (bt160.2 != 0)) else (tabardlaw1_NatRings.j3 kj31 x20_31 t132 t136 bt140.1 bt148.1 bt152.1 bt160.1 true)) else (tabardlaw1_NatRings.j3 kj31 x20_31 t132 t136 bt140.1 bt148.1 bt152.1 bt160.1 true)) else (tabardlaw1_NatRings.j3 kj31 x20_31 t132 t136 bt140.1 bt148.1 bt152.1 bt160.1 true)) else (tabardlaw1_NatRings.j3 kj31 x20_31 t132 t136 bt140.1 bt148.1 bt152.1 bt160.1 true)) else (tabardlaw1_NatRings.j3 kj31 x20_31 t132 t136 bt140.1 bt148.1 bt152.1 bt160.1 true)) else (tabardlaw1_NatRings.j3 kj31 x20_31 t132 t136 bt140.1 bt148.1 bt152.1 bt160.1 true)) else (tabardlaw1_NatRings.j3 kj31 x20_31 t132 t136 bt140.1 bt148.1 bt152.1 bt160.1 true)))))))) = some r := H
         have A50 := Aside0.mk A500
         clear A500
         replace H := Option.bind_eq_some_iff.mp H
         obtain ⟨⟨t140,t143⟩,A510,H⟩ := H
         replace H : ((nat_Mul.f kj31 l0 l2).bind fun bt144 => ((nat_Add.f kj31 t132 bt144.1).bind fun bt148 => ((nat_Mul.f kj31 t132 l2).bind fun bt152 => ((nat_Mul.f kj31 l1 l2).bind fun bt156 => ((nat_Mul.f kj31 l0 bt156.1).bind fun bt160 => (if t135 = 0 then (if t139 = 0 then (if t143 = 0 then (if bt144.2 = 0 then (if bt148.2 = 0 then (if bt152.2 = 0 then (if bt156.2 = 0 then (tabardlaw1_NatRings.j3 kj31 x20_31 t132 t136 t140 bt148.1 bt152.1 bt160.1 (bt160.2 != 0)) else (tabardlaw1_NatRings.j3 kj31 x20_31 t132 t136 t140 bt148.1 bt152.1 bt160.1 true)) else (tabardlaw1_NatRings.j3 kj31 x20_31 t132 t136 t140 bt148.1 bt152.1 bt160.1 true)) else (tabardlaw1_NatRings.j3 kj31 x20_31 t132 t136 t140 bt148.1 bt152.1 bt160.1 true)) else (tabardlaw1_NatRings.j3 kj31 x20_31 t132 t136 t140 bt148.1 bt152.1 bt160.1 true)) else (tabardlaw1_NatRings.j3 kj31 x20_31 t132 t136 t140 bt148.1 bt152.1 bt160.1 true)) else (tabardlaw1_NatRings.j3 kj31 x20_31 t132 t136 t140 bt148.1 bt152.1 bt160.1 true)) else (tabardlaw1_NatRings.j3 kj31 x20_31 t132 t136 t140 bt148.1 bt152.1 bt160.1 true))))))) = some r := H
         have A51 := Aside0.mk A510
         clear A510
         replace H := Option.bind_eq_some_iff.mp H
         obtain ⟨⟨t144,t147⟩,A520,H⟩ := H
         replace H : ((nat_Add.f kj31 t132 t144).bind fun bt148 => ((nat_Mul.f kj31 t132 l2).bind fun bt152 => ((nat_Mul.f kj31 l1 l2).bind fun bt156 => ((nat_Mul.f kj31 l0 bt156.1).bind fun bt160 => (if t135 = 0 then (if t139 = 0 then (if t143 = 0 then (if t147 = 0 then (if bt148.2 = 0 then (if bt152.2 = 0 then (if bt156.2 = 0 then (tabardlaw1_NatRings.j3 kj31 x20_31 t132 t136 t140 bt148.1 bt152.1 bt160.1 (bt160.2 != 0)) else (tabardlaw1_NatRings.j3 kj31 x20_31 t132 t136 t140 bt148.1 bt152.1 bt160.1 true)) else (tabardlaw1_NatRings.j3 kj31 x20_31 t132 t136 t140 bt148.1 bt152.1 bt160.1 true)) else (tabardlaw1_NatRings.j3 kj31 x20_31 t132 t136 t140 bt148.1 bt152.1 bt160.1 true)) else (tabardlaw1_NatRings.j3 kj31 x20_31 t132 t136 t140 bt148.1 bt152.1 bt160.1 true)) else (tabardlaw1_NatRings.j3 kj31 x20_31 t132 t136 t140 bt148.1 bt152.1 bt160.1 true)) else (tabardlaw1_NatRings.j3 kj31 x20_31 t132 t136 t140 bt148.1 bt152.1 bt160.1 true)) else (tabardlaw1_NatRings.j3 kj31 x20_31 t132 t136 t140 bt148.1 bt152.1 bt160.1 true)))))) = some r := H
         have A52 := Aside0.mk A520
         clear A520
         replace H := Option.bind_eq_some_iff.mp H
         obtain ⟨⟨t148,t151⟩,A530,H⟩ := H
         replace H : ((nat_Mul.f kj31 t132 l2).bind fun bt152 => ((nat_Mul.f kj31 l1 l2).bind fun bt156 => ((nat_Mul.f kj31 l0 bt156.1).bind fun bt160 => (if t135 = 0 then (if t139 = 0 then (if t143 = 0 then (if t147 = 0 then (if t151 = 0 then (if bt152.2 = 0 then (if bt156.2 = 0 then (tabardlaw1_NatRings.j3 kj31 x20_31 t132 t136 t140 t148 bt152.1 bt160.1 (bt160.2 != 0)) else (tabardlaw1_NatRings.j3 kj31 x20_31 t132 t136 t140 t148 bt152.1 bt160.1 true)) else (tabardlaw1_NatRings.j3 kj31 x20_31 t132 t136 t140 t148 bt152.1 bt160.1 true)) else (tabardlaw1_NatRings.j3 kj31 x20_31 t132 t136 t140 t148 bt152.1 bt160.1 true)) else (tabardlaw1_NatRings.j3 kj31 x20_31 t132 t136 t140 t148 bt152.1 bt160.1 true)) else (tabardlaw1_NatRings.j3 kj31 x20_31 t132 t136 t140 t148 bt152.1 bt160.1 true)) else (tabardlaw1_NatRings.j3 kj31 x20_31 t132 t136 t140 t148 bt152.1 bt160.1 true)) else (tabardlaw1_NatRings.j3 kj31 x20_31 t132 t136 t140 t148 bt152.1 bt160.1 true))))) = some r := H
         have A53 := Aside0.mk A530
         clear A530
         replace H := Option.bind_eq_some_iff.mp H
         obtain ⟨⟨t152,t155⟩,A540,H⟩ := H
         replace H : ((nat_Mul.f kj31 l1 l2).bind fun bt156 => ((nat_Mul.f kj31 l0 bt156.1).bind fun bt160 => (if t135 = 0 then (if t139 = 0 then (if t143 = 0 then (if t147 = 0 then (if t151 = 0 then (if t155 = 0 then (if bt156.2 = 0 then (tabardlaw1_NatRings.j3 kj31 x20_31 t132 t136 t140 t148 t152 bt160.1 (bt160.2 != 0)) else (tabardlaw1_NatRings.j3 kj31 x20_31 t132 t136 t140 t148 t152 bt160.1 true)) else (tabardlaw1_NatRings.j3 kj31 x20_31 t132 t136 t140 t148 t152 bt160.1 true)) else (tabardlaw1_NatRings.j3 kj31 x20_31 t132 t136 t140 t148 t152 bt160.1 true)) else (tabardlaw1_NatRings.j3 kj31 x20_31 t132 t136 t140 t148 t152 bt160.1 true)) else (tabardlaw1_NatRings.j3 kj31 x20_31 t132 t136 t140 t148 t152 bt160.1 true)) else (tabardlaw1_NatRings.j3 kj31 x20_31 t132 t136 t140 t148 t152 bt160.1 true)) else (tabardlaw1_NatRings.j3 kj31 x20_31 t132 t136 t140 t148 t152 bt160.1 true)))) = some r := H
         have A54 := Aside0.mk A540
         clear A540
         replace H := Option.bind_eq_some_iff.mp H
         obtain ⟨⟨t156,t159⟩,A550,H⟩ := H
         replace H : ((nat_Mul.f kj31 l0 t156).bind fun bt160 => (if t135 = 0 then (if t139 = 0 then (if t143 = 0 then (if t147 = 0 then (if t151 = 0 then (if t155 = 0 then (if t159 = 0 then (tabardlaw1_NatRings.j3 kj31 x20_31 t132 t136 t140 t148 t152 bt160.1 (bt160.2 != 0)) else (tabardlaw1_NatRings.j3 kj31 x20_31 t132 t136 t140 t148 t152 bt160.1 true)) else (tabardlaw1_NatRings.j3 kj31 x20_31 t132 t136 t140 t148 t152 bt160.1 true)) else (tabardlaw1_NatRings.j3 kj31 x20_31 t132 t136 t140 t148 t152 bt160.1 true)) else (tabardlaw1_NatRings.j3 kj31 x20_31 t132 t136 t140 t148 t152 bt160.1 true)) else (tabardlaw1_NatRings.j3 kj31 x20_31 t132 t136 t140 t148 t152 bt160.1 true)) else (tabardlaw1_NatRings.j3 kj31 x20_31 t132 t136 t140 t148 t152 bt160.1 true)) else (tabardlaw1_NatRings.j3 kj31 x20_31 t132 t136 t140 t148 t152 bt160.1 true))) = some r := H
         have A55 := Aside0.mk A550
         clear A550
         replace H := Option.bind_eq_some_iff.mp H
         obtain ⟨⟨t160,t163⟩,A560,H⟩ := H
         replace H : (if t135 = 0 then (if t139 = 0 then (if t143 = 0 then (if t147 = 0 then (if t151 = 0 then (if t155 = 0 then (if t159 = 0 then (tabardlaw1_NatRings.j3 kj31 x20_31 t132 t136 t140 t148 t152 t160 (t163 != 0)) else (tabardlaw1_NatRings.j3 kj31 x20_31 t132 t136 t140 t148 t152 t160 true)) else (tabardlaw1_NatRings.j3 kj31 x20_31 t132 t136 t140 t148 t152 t160 true)) else (tabardlaw1_NatRings.j3 kj31 x20_31 t132 t136 t140 t148 t152 t160 true)) else (tabardlaw1_NatRings.j3 kj31 x20_31 t132 t136 t140 t148 t152 t160 true)) else (tabardlaw1_NatRings.j3 kj31 x20_31 t132 t136 t140 t148 t152 t160 true)) else (tabardlaw1_NatRings.j3 kj31 x20_31 t132 t136 t140 t148 t152 t160 true)) else (tabardlaw1_NatRings.j3 kj31 x20_31 t132 t136 t140 t148 t152 t160 true)) = some r := H
         have A56 := Aside0.mk A560
         clear A560
         have HC57 := Aside0.mk H
         clear H
         go_upto_region 21 with (first | ((with_reducible refine gate_callee (f := 12) rfl ?_);refine goesL_ (some 131) rfl rfl Tryd.func12 (by kernel_rfl) rfl #[.slice A0 l0.length c0,.slice A1 l1.length c1] rfl am_ ?_;(with_reducible refine (nat_Mul.calls kj31 (fun k_ => k_ < w.heap.size) _ _ l0 (fun k_ => k_ < w.heap.size) _ _ l1 t132 t135 _ ?side1 ?side2 A49.out).mono ?_);(case side1 => exact Kd.V_mk HC0.out (Kd.F_below (Kd.C_F (Kd.heap_int .u32) HR0.out) bl_));(case side2 => exact Kd.V_mk HC1.out (Kd.F_below (Kd.C_F (Kd.heap_int .u32) HR1.out) bl_));rintro e w58 ⟨v133,rfl,ho0,hb⟩;refine ⟨_,rfl,?_⟩;have HO134 := Aside0.mk (Kd.R_lower (Kd.R_new' (Kd.R_mono (ok' := fun k_ => True) ho0 (fun _ hk_ => trivial)) (Kd.R_lt (ra_ HO_12.out))) (below_size bl_));replace HO_12 := Aside0.mk (Kd.R_elder' (ra_ HO_12.out) (Kd.R_base ho0) hb);replace HB := Aside0.mk (below_step bl_ hb);(try clear hb);(try clear hb2);(try clear hk);(try clear hi);(try clear ho0)) | ((with_reducible refine gate_callee (f := 12) rfl ?_);refine goesL_ (some 137) rfl rfl Tryd.func12 (by kernel_rfl) rfl #[.slice A1 l1.length c1,.slice A0 l0.length c0] rfl am_ ?_;(with_reducible refine (nat_Mul.calls kj31 (fun k_ => k_ < w.heap.size) _ _ l1 (fun k_ => k_ < w.heap.size) _ _ l0 t136 t139 _ ?side1 ?side2 A50.out).mono ?_);(case side1 => exact Kd.V_mk HC1.out (Kd.F_below (Kd.C_F (Kd.heap_int .u32) HR1.out) bl_));(case side2 => exact Kd.V_mk HC0.out (Kd.F_below (Kd.C_F (Kd.heap_int .u32) HR0.out) bl_));rintro e w59 ⟨v137,rfl,ho0,hb⟩;refine ⟨_,rfl,?_⟩;have HO138 := Aside0.mk (Kd.R_lower (Kd.R_new' (Kd.R_new' (Kd.R_mono (ok' := fun k_ => True) ho0 (fun _ hk_ => trivial)) (Kd.R_lt (ra_ HO_12.out))) (Kd.R_lt (ra_ HO134.out))) (below_size bl_));replace HO_12 := Aside0.mk (Kd.R_elder' (ra_ HO_12.out) (Kd.R_base ho0) hb);replace HO134 := Aside0.mk (Kd.R_elder' (ra_ HO134.out) (Kd.R_base ho0) hb);replace HB := Aside0.mk (below_step bl_ hb);(try clear hb);(try clear hb2);(try clear hk);(try clear hi);(try clear ho0)) | ((with_reducible refine gate_callee (f := 12) rfl ?_);refine goesL_ (some 143) rfl rfl Tryd.func12 (by kernel_rfl) rfl #[.slice A0 l0.length c0,.slice Ao23 t110.length co23] rfl am_ ?_;(with_reducible refine (nat_Mul.calls kj31 (fun k_ => k_ < w.heap.size) _ _ l0 (fun k_ => some k_ = (.slice Ao23 t110.length co23 : Value).ownBlock) _ _ t110 t140 t143 _ ?side1 ?side2 A51.out).mono ?_);(case side1 => exact Kd.V_mk HC0.out (Kd.F_below (Kd.C_F (Kd.heap_int .u32) HR0.out) bl_));(case side2 => exact Kd.R_V (Kd.R_tight rfl (HO_12.out)));rintro e w60 ⟨v141,rfl,ho0,hb⟩;refine ⟨_,rfl,?_⟩;have HO142 := Aside0.mk (Kd.R_lower (Kd.R_new' (Kd.R_new' (Kd.R_new' (Kd.R_mono (ok' := fun k_ => True) ho0 (fun _ hk_ => trivial)) (Kd.R_lt (ra_ HO_12.out))) (Kd.R_lt (ra_ HO134.out))) (Kd.R_lt (ra_ HO138.out))) (below_size bl_));replace HO_12 := Aside0.mk (Kd.R_elder' (ra_ HO_12.out) (Kd.R_base ho0) hb);replace HO134 := Aside0.mk (Kd.R_elder' (ra_ HO134.out) (Kd.R_base ho0) hb);replace HO138 := Aside0.mk (Kd.R_elder' (ra_ HO138.out) (Kd.R_base ho0) hb);replace HB := Aside0.mk (below_step bl_ hb);(try clear hb);(try clear hb2);(try clear hk);(try clear hi);(try clear ho0)) | ((with_reducible refine gate_callee (f := 12) rfl ?_);refine goesL_ (some 149) rfl rfl Tryd.func12 (by kernel_rfl) rfl #[.slice A0 l0.length c0,.slice A2 l2.length c2] rfl am_ ?_;(with_reducible refine (nat_Mul.calls kj31 (fun k_ => k_ < w.heap.size) _ _ l0 (fun k_ => k_ < w.heap.size) _ _ l2 t144 t147 _ ?side1 ?side2 A52.out).mono ?_);(case side1 => exact Kd.V_mk HC0.out (Kd.F_below (Kd.C_F (Kd.heap_int .u32) HR0.out) bl_));(case side2 => exact Kd.V_mk HC2.out (Kd.F_below (Kd.C_F (Kd.heap_int .u32) HR2.out) bl_));rintro e w61 ⟨v145,rfl,ho0,hb⟩;refine ⟨_,rfl,?_⟩;have HO146 := Aside0.mk (Kd.R_lower (Kd.R_new' (Kd.R_new' (Kd.R_new' (Kd.R_new' (Kd.R_mono (ok' := fun k_ => True) ho0 (fun _ hk_ => trivial)) (Kd.R_lt (ra_ HO_12.out))) (Kd.R_lt (ra_ HO134.out))) (Kd.R_lt (ra_ HO138.out))) (Kd.R_lt (ra_ HO142.out))) (below_size bl_));replace HO_12 := Aside0.mk (Kd.R_elder' (ra_ HO_12.out) (Kd.R_base ho0) hb);replace HO134 := Aside0.mk (Kd.R_elder' (ra_ HO134.out) (Kd.R_base ho0) hb);replace HO138 := Aside0.mk (Kd.R_elder' (ra_ HO138.out) (Kd.R_base ho0) hb);replace HO142 := Aside0.mk (Kd.R_elder' (ra_ HO142.out) (Kd.R_base ho0) hb);replace HB := Aside0.mk (below_step bl_ hb);(try clear hb);(try clear hb2);(try clear hk);(try clear hi);(try clear ho0);obtain ⟨Ao62,co62,eo62⟩ := Kd.R_slice HO134.out;subst eo62;obtain ⟨Ao63,co63,eo63⟩ := Kd.R_slice HO146.out;subst eo63) | ((with_reducible refine gate_callee (f := 8) rfl ?_);refine goesL_ (some 155) rfl rfl Tryd.func8 (by kernel_rfl) rfl #[.slice Ao62 t132.length co62,.slice Ao63 t144.length co63] rfl am_ ?_;(with_reducible refine (nat_Add.calls kj31 (fun k_ => some k_ = (.slice Ao62 t132.length co62 : Value).ownBlock) _ _ t132 (fun k_ => some k_ = (.slice Ao63 t144.length co63 : Value).ownBlock) _ _ t144 t148 t151 _ ?side1 ?side2 A53.out).mono ?_);(case side1 => exact Kd.R_V (Kd.R_tight rfl (HO134.out)));(case side2 => exact Kd.R_V (Kd.R_tight rfl (HO146.out)));rintro e w64 ⟨v149,rfl,ho0,hb⟩;refine ⟨_,rfl,?_⟩;have HO150 := Aside0.mk (Kd.R_lower (Kd.R_new' (Kd.R_new' (Kd.R_new' (Kd.R_new' (Kd.R_new' (Kd.R_mono (ok' := fun k_ => True) ho0 (fun _ hk_ => trivial)) (Kd.R_lt (ra_ HO_12.out))) (Kd.R_lt (ra_ HO134.out))) (Kd.R_lt (ra_ HO138.out))) (Kd.R_lt (ra_ HO142.out))) (Kd.R_lt (ra_ HO146.out))) (below_size bl_));replace HO_12 := Aside0.mk (Kd.R_elder' (ra_ HO_12.out) (Kd.R_base ho0) hb);replace HO134 := Aside0.mk (Kd.R_elder' (ra_ HO134.out) (Kd.R_base ho0) hb);replace HO138 := Aside0.mk (Kd.R_elder' (ra_ HO138.out) (Kd.R_base ho0) hb);replace HO142 := Aside0.mk (Kd.R_elder' (ra_ HO142.out) (Kd.R_base ho0) hb);replace HO146 := Aside0.mk (Kd.R_elder' (ra_ HO146.out) (Kd.R_base ho0) hb);replace HB := Aside0.mk (below_step bl_ hb);(try clear hb);(try clear hb2);(try clear hk);(try clear hi);(try clear ho0)) | ((with_reducible refine gate_callee (f := 12) rfl ?_);refine goesL_ (some 161) rfl rfl Tryd.func12 (by kernel_rfl) rfl #[.slice Ao62 t132.length co62,.slice A2 l2.length c2] rfl am_ ?_;(with_reducible refine (nat_Mul.calls kj31 (fun k_ => some k_ = (.slice Ao62 t132.length co62 : Value).ownBlock) _ _ t132 (fun k_ => k_ < w.heap.size) _ _ l2 t152 t155 _ ?side1 ?side2 A54.out).mono ?_);(case side1 => exact Kd.R_V (Kd.R_tight rfl (HO134.out)));(case side2 => exact Kd.V_mk HC2.out (Kd.F_below (Kd.C_F (Kd.heap_int .u32) HR2.out) bl_));rintro e w65 ⟨v153,rfl,ho0,hb⟩;refine ⟨_,rfl,?_⟩;have HO154 := Aside0.mk (Kd.R_lower (Kd.R_new' (Kd.R_new' (Kd.R_new' (Kd.R_new' (Kd.R_new' (Kd.R_new' (Kd.R_mono (ok' := fun k_ => True) ho0 (fun _ hk_ => trivial)) (Kd.R_lt (ra_ HO_12.out))) (Kd.R_lt (ra_ HO134.out))) (Kd.R_lt (ra_ HO138.out))) (Kd.R_lt (ra_ HO142.out))) (Kd.R_lt (ra_ HO146.out))) (Kd.R_lt (ra_ HO150.out))) (below_size bl_));replace HO_12 := Aside0.mk (Kd.R_elder' (ra_ HO_12.out) (Kd.R_base ho0) hb);replace HO134 := Aside0.mk (Kd.R_elder' (ra_ HO134.out) (Kd.R_base ho0) hb);replace HO138 := Aside0.mk (Kd.R_elder' (ra_ HO138.out) (Kd.R_base ho0) hb);replace HO142 := Aside0.mk (Kd.R_elder' (ra_ HO142.out) (Kd.R_base ho0) hb);replace HO146 := Aside0.mk (Kd.R_elder' (ra_ HO146.out) (Kd.R_base ho0) hb);replace HO150 := Aside0.mk (Kd.R_elder' (ra_ HO150.out) (Kd.R_base ho0) hb);replace HB := Aside0.mk (below_step bl_ hb);(try clear hb);(try clear hb2);(try clear hk);(try clear hi);(try clear ho0)) | ((with_reducible refine gate_callee (f := 12) rfl ?_);refine goesL_ (some 167) rfl rfl Tryd.func12 (by kernel_rfl) rfl #[.slice A1 l1.length c1,.slice A2 l2.length c2] rfl am_ ?_;(with_reducible refine (nat_Mul.calls kj31 (fun k_ => k_ < w.heap.size) _ _ l1 (fun k_ => k_ < w.heap.size) _ _ l2 t156 t159 _ ?side1 ?side2 A55.out).mono ?_);(case side1 => exact Kd.V_mk HC1.out (Kd.F_below (Kd.C_F (Kd.heap_int .u32) HR1.out) bl_));(case side2 => exact Kd.V_mk HC2.out (Kd.F_below (Kd.C_F (Kd.heap_int .u32) HR2.out) bl_));rintro e w66 ⟨v157,rfl,ho0,hb⟩;refine ⟨_,rfl,?_⟩;have HO158 := Aside0.mk (Kd.R_lower (Kd.R_new' (Kd.R_new' (Kd.R_new' (Kd.R_new' (Kd.R_new' (Kd.R_new' (Kd.R_new' (Kd.R_mono (ok' := fun k_ => True) ho0 (fun _ hk_ => trivial)) (Kd.R_lt (ra_ HO_12.out))) (Kd.R_lt (ra_ HO134.out))) (Kd.R_lt (ra_ HO138.out))) (Kd.R_lt (ra_ HO142.out))) (Kd.R_lt (ra_ HO146.out))) (Kd.R_lt (ra_ HO150.out))) (Kd.R_lt (ra_ HO154.out))) (below_size bl_));replace HO_12 := Aside0.mk (Kd.R_elder' (ra_ HO_12.out) (Kd.R_base ho0) hb);replace HO134 := Aside0.mk (Kd.R_elder' (ra_ HO134.out) (Kd.R_base ho0) hb);replace HO138 := Aside0.mk (Kd.R_elder' (ra_ HO138.out) (Kd.R_base ho0) hb);replace HO142 := Aside0.mk (Kd.R_elder' (ra_ HO142.out) (Kd.R_base ho0) hb);replace HO146 := Aside0.mk (Kd.R_elder' (ra_ HO146.out) (Kd.R_base ho0) hb);replace HO150 := Aside0.mk (Kd.R_elder' (ra_ HO150.out) (Kd.R_base ho0) hb);replace HO154 := Aside0.mk (Kd.R_elder' (ra_ HO154.out) (Kd.R_base ho0) hb);replace HB := Aside0.mk (below_step bl_ hb);(try clear hb);(try clear hb2);(try clear hk);(try clear hi);(try clear ho0);obtain ⟨Ao67,co67,eo67⟩ := Kd.R_slice HO158.out;subst eo67) | ((with_reducible refine gate_callee (f := 12) rfl ?_);refine goesL_ (some 173) rfl rfl Tryd.func12 (by kernel_rfl) rfl #[.slice A0 l0.length c0,.slice Ao67 t156.length co67] rfl am_ ?_;(with_reducible refine (nat_Mul.calls kj31 (fun k_ => k_ < w.heap.size) _ _ l0 (fun k_ => some k_ = (.slice Ao67 t156.length co67 : Value).ownBlock) _ _ t156 t160 t163 _ ?side1 ?side2 A56.out).mono ?_);(case side1 => exact Kd.V_mk HC0.out (Kd.F_below (Kd.C_F (Kd.heap_int .u32) HR0.out) bl_));(case side2 => exact Kd.R_V (Kd.R_tight rfl (HO158.out)));rintro e w68 ⟨v161,rfl,ho0,hb⟩;refine ⟨_,rfl,?_⟩;have HO162 := Aside0.mk (Kd.R_lower (Kd.R_new' (Kd.R_new' (Kd.R_new' (Kd.R_new' (Kd.R_new' (Kd.R_new' (Kd.R_new' (Kd.R_new' (Kd.R_mono (ok' := fun k_ => True) ho0 (fun _ hk_ => trivial)) (Kd.R_lt (ra_ HO_12.out))) (Kd.R_lt (ra_ HO134.out))) (Kd.R_lt (ra_ HO138.out))) (Kd.R_lt (ra_ HO142.out))) (Kd.R_lt (ra_ HO146.out))) (Kd.R_lt (ra_ HO150.out))) (Kd.R_lt (ra_ HO154.out))) (Kd.R_lt (ra_ HO158.out))) (below_size bl_));replace HO_12 := Aside0.mk (Kd.R_elder' (ra_ HO_12.out) (Kd.R_base ho0) hb);replace HO134 := Aside0.mk (Kd.R_elder' (ra_ HO134.out) (Kd.R_base ho0) hb);replace HO138 := Aside0.mk (Kd.R_elder' (ra_ HO138.out) (Kd.R_base ho0) hb);replace HO142 := Aside0.mk (Kd.R_elder' (ra_ HO142.out) (Kd.R_base ho0) hb);replace HO146 := Aside0.mk (Kd.R_elder' (ra_ HO146.out) (Kd.R_base ho0) hb);replace HO150 := Aside0.mk (Kd.R_elder' (ra_ HO150.out) (Kd.R_base ho0) hb);replace HO154 := Aside0.mk (Kd.R_elder' (ra_ HO154.out) (Kd.R_base ho0) hb);replace HO158 := Aside0.mk (Kd.R_elder' (ra_ HO158.out) (Kd.R_base ho0) hb);replace HB := Aside0.mk (below_step bl_ hb);(try clear hb);(try clear hb2);(try clear hk);(try clear hi);(try clear ho0)))
         (try simp only [Act.put,List.setIfInBounds_toArray,List.set_cons_zero,List.set_cons_succ])
         go_cut [205] (fun v205 wc => ∃ (kq : Nat) (x205_56 : Bool),v205 = .bool x205_56 ∧ Aside0 (tabardlaw1_NatRings.j3 kq x20_31 t132 t136 t140 t148 t152 t160 x205_56 = some r) ∧ Aside0 (kq ≤ kj31) ∧ Aside0 (Kd.R (Kd.int .u32) 43 wc w.heap.size (fun k_ => some k_ ≠ (v137 : Value).ownBlock ∧ some k_ ≠ (v141 : Value).ownBlock ∧ some k_ ≠ (v149 : Value).ownBlock ∧ some k_ ≠ (v153 : Value).ownBlock ∧ some k_ ≠ (v161 : Value).ownBlock) (.slice Ao62 t132.length co62) t132) ∧ Aside0 (Kd.R (Kd.int .u32) 43 wc w.heap.size (fun k_ => some k_ ≠ ((.slice Ao62 t132.length co62) : Value).ownBlock ∧ some k_ ≠ (v141 : Value).ownBlock ∧ some k_ ≠ (v149 : Value).ownBlock ∧ some k_ ≠ (v153 : Value).ownBlock ∧ some k_ ≠ (v161 : Value).ownBlock) v137 t136) ∧ Aside0 (Kd.R (Kd.int .u32) 43 wc w.heap.size (fun k_ => some k_ ≠ ((.slice Ao62 t132.length co62) : Value).ownBlock ∧ some k_ ≠ (v137 : Value).ownBlock ∧ some k_ ≠ (v149 : Value).ownBlock ∧ some k_ ≠ (v153 : Value).ownBlock ∧ some k_ ≠ (v161 : Value).ownBlock) v141 t140) ∧ Aside0 (Kd.R (Kd.int .u32) 43 wc w.heap.size (fun k_ => some k_ ≠ ((.slice Ao62 t132.length co62) : Value).ownBlock ∧ some k_ ≠ (v137 : Value).ownBlock ∧ some k_ ≠ (v141 : Value).ownBlock ∧ some k_ ≠ (v153 : Value).ownBlock ∧ some k_ ≠ (v161 : Value).ownBlock) v149 t148) ∧ Aside0 (Kd.R (Kd.int .u32) 43 wc w.heap.size (fun k_ => some k_ ≠ ((.slice Ao62 t132.length co62) : Value).ownBlock ∧ some k_ ≠ (v137 : Value).ownBlock ∧ some k_ ≠ (v141 : Value).ownBlock ∧ some k_ ≠ (v149 : Value).ownBlock ∧ some k_ ≠ (v161 : Value).ownBlock) v153 t152) ∧ Aside0 (Kd.R (Kd.int .u32) 43 wc w.heap.size (fun k_ => some k_ ≠ ((.slice Ao62 t132.length co62) : Value).ownBlock ∧ some k_ ≠ (v137 : Value).ownBlock ∧ some k_ ≠ (v141 : Value).ownBlock ∧ some k_ ≠ (v149 : Value).ownBlock ∧ some k_ ≠ (v153 : Value).ownBlock) v161 t160) ∧ Aside0 (Below w.heap.size w wc))
         case first => as_aux_lemma =>
          have H := HC57.out
          clear HC57
          by_cases c69 : t135 = 0
          ·rw [if_pos c69] at H
           have c69b0 : (t135 == 0) = true := beq_iff_eq.mpr c69
           have c69b1 : (t135 != 0) = false := bne_eq_false_iff_eq.mpr c69
           clear c69
           (first | rw [c69b0] | (simp only [i64_w,i32_w];rw [c69b0]) | rw [c69b1] | (simp only [i64_w,i32_w];rw [c69b1]) | skip)
           by_cases c70 : t139 = 0
           ·rw [if_pos c70] at H
            have c70b0 : (t139 == 0) = true := beq_iff_eq.mpr c70
            have c70b1 : (t139 != 0) = false := bne_eq_false_iff_eq.mpr c70
            clear c70
            by_cases c71 : t143 = 0
            ·rw [if_pos c71] at H
             have c71b0 : (t143 == 0) = true := beq_iff_eq.mpr c71
             have c71b1 : (t143 != 0) = false := bne_eq_false_iff_eq.mpr c71
             clear c71
             by_cases c72 : t147 = 0
             ·rw [if_pos c72] at H
              have c72b0 : (t147 == 0) = true := beq_iff_eq.mpr c72
              have c72b1 : (t147 != 0) = false := bne_eq_false_iff_eq.mpr c72
              clear c72
              by_cases c73 : t151 = 0
              ·rw [if_pos c73] at H
               have c73b0 : (t151 == 0) = true := beq_iff_eq.mpr c73
               have c73b1 : (t151 != 0) = false := bne_eq_false_iff_eq.mpr c73
               clear c73
               by_cases c74 : t155 = 0
               ·rw [if_pos c74] at H
                have c74b0 : (t155 == 0) = true := beq_iff_eq.mpr c74
                have c74b1 : (t155 != 0) = false := bne_eq_false_iff_eq.mpr c74
                clear c74
                by_cases c75 : t159 = 0
                ·rw [if_pos c75] at H
                 have c75b0 : (t159 == 0) = true := beq_iff_eq.mpr c75
                 have c75b1 : (t159 != 0) = false := bne_eq_false_iff_eq.mpr c75
                 clear c75
                 have H' := Aside0.mk H
                 clear H
                 go_wp2
                 go_meet
                 case rel => exact ⟨_,((t163 != 0)),(by first | rfl | (simp;done) | (simp [*];done)),H',⟨by have := HJ4.out;have := HJ16.out;have := HJ31.out;first | omega | exact Nat.le_refl _⟩,⟨by (with_reducible repeat (first | apply Kd.R_alloc | apply Kd.R_drewN | apply Kd.R_drew));exact Kd.R_mono HO134.out (fun _ hk => ⟨hk.1.1.1.1.1.1.2,⟨hk.1.1.1.1.1.2,⟨hk.1.1.1.2,⟨hk.1.1.2,hk.2⟩⟩⟩⟩)⟩,⟨by (with_reducible repeat (first | apply Kd.R_alloc | apply Kd.R_drewN | apply Kd.R_drew));exact Kd.R_mono HO138.out (fun _ hk => ⟨hk.1.1.1.1.1.1.2,⟨hk.1.1.1.1.1.2,⟨hk.1.1.1.2,⟨hk.1.1.2,hk.2⟩⟩⟩⟩)⟩,⟨by (with_reducible repeat (first | apply Kd.R_alloc | apply Kd.R_drewN | apply Kd.R_drew));exact Kd.R_mono HO142.out (fun _ hk => ⟨hk.1.1.1.1.1.1.2,⟨hk.1.1.1.1.1.2,⟨hk.1.1.1.2,⟨hk.1.1.2,hk.2⟩⟩⟩⟩)⟩,⟨by (with_reducible repeat (first | apply Kd.R_alloc | apply Kd.R_drewN | apply Kd.R_drew));exact Kd.R_mono HO150.out (fun _ hk => ⟨hk.1.1.1.1.1.1.2,⟨hk.1.1.1.1.1.2,⟨hk.1.1.1.1.2,⟨hk.1.1.2,hk.2⟩⟩⟩⟩)⟩,⟨by (with_reducible repeat (first | apply Kd.R_alloc | apply Kd.R_drewN | apply Kd.R_drew));exact Kd.R_mono HO154.out (fun _ hk => ⟨hk.1.1.1.1.1.1.2,⟨hk.1.1.1.1.1.2,⟨hk.1.1.1.1.2,⟨hk.1.1.2,hk.2⟩⟩⟩⟩)⟩,⟨by (with_reducible repeat (first | apply Kd.R_alloc | apply Kd.R_drewN | apply Kd.R_drew));exact Kd.R_mono HO162.out (fun _ hk => ⟨hk.1.1.1.1.1.1.2,⟨hk.1.1.1.1.1.2,⟨hk.1.1.1.1.2,⟨hk.1.1.2,hk.1.2⟩⟩⟩⟩)⟩,⟨by repeat (first | (with_reducible first | exact HB.out | apply below_alloc | apply pw_below_drewN | apply below_drew1) | exact HB.out)⟩⟩
                ·rw [if_neg c75] at H
                 have c75b0 : (t159 == 0) = false := beq_eq_false_iff_ne.mpr c75
                 have c75b1 : (t159 != 0) = true := bne_iff_ne.mpr c75
                 have H' := Aside0.mk H
                 clear H
                 go_wp2
                 go_meet
                 case rel => exact ⟨_,(true),(by first | rfl | (simp;done) | (simp [*];done)),H',⟨by have := HJ4.out;have := HJ16.out;have := HJ31.out;first | omega | exact Nat.le_refl _⟩,⟨by (with_reducible repeat (first | apply Kd.R_alloc | apply Kd.R_drewN | apply Kd.R_drew));exact Kd.R_mono HO134.out (fun _ hk => ⟨hk.1.1.1.1.1.1.2,⟨hk.1.1.1.1.1.2,⟨hk.1.1.1.2,⟨hk.1.1.2,hk.2⟩⟩⟩⟩)⟩,⟨by (with_reducible repeat (first | apply Kd.R_alloc | apply Kd.R_drewN | apply Kd.R_drew));exact Kd.R_mono HO138.out (fun _ hk => ⟨hk.1.1.1.1.1.1.2,⟨hk.1.1.1.1.1.2,⟨hk.1.1.1.2,⟨hk.1.1.2,hk.2⟩⟩⟩⟩)⟩,⟨by (with_reducible repeat (first | apply Kd.R_alloc | apply Kd.R_drewN | apply Kd.R_drew));exact Kd.R_mono HO142.out (fun _ hk => ⟨hk.1.1.1.1.1.1.2,⟨hk.1.1.1.1.1.2,⟨hk.1.1.1.2,⟨hk.1.1.2,hk.2⟩⟩⟩⟩)⟩,⟨by (with_reducible repeat (first | apply Kd.R_alloc | apply Kd.R_drewN | apply Kd.R_drew));exact Kd.R_mono HO150.out (fun _ hk => ⟨hk.1.1.1.1.1.1.2,⟨hk.1.1.1.1.1.2,⟨hk.1.1.1.1.2,⟨hk.1.1.2,hk.2⟩⟩⟩⟩)⟩,⟨by (with_reducible repeat (first | apply Kd.R_alloc | apply Kd.R_drewN | apply Kd.R_drew));exact Kd.R_mono HO154.out (fun _ hk => ⟨hk.1.1.1.1.1.1.2,⟨hk.1.1.1.1.1.2,⟨hk.1.1.1.1.2,⟨hk.1.1.2,hk.2⟩⟩⟩⟩)⟩,⟨by (with_reducible repeat (first | apply Kd.R_alloc | apply Kd.R_drewN | apply Kd.R_drew));exact Kd.R_mono HO162.out (fun _ hk => ⟨hk.1.1.1.1.1.1.2,⟨hk.1.1.1.1.1.2,⟨hk.1.1.1.1.2,⟨hk.1.1.2,hk.1.2⟩⟩⟩⟩)⟩,⟨by repeat (first | (with_reducible first | exact HB.out | apply below_alloc | apply pw_below_drewN | apply below_drew1) | exact HB.out)⟩⟩
               ·rw [if_neg c74] at H
                have c74b0 : (t155 == 0) = false := beq_eq_false_iff_ne.mpr c74
                have c74b1 : (t155 != 0) = true := bne_iff_ne.mpr c74
                have H' := Aside0.mk H
                clear H
                go_wp2
                go_meet
                case rel => exact ⟨_,(true),(by first | rfl | (simp;done) | (simp [*];done)),H',⟨by have := HJ4.out;have := HJ16.out;have := HJ31.out;first | omega | exact Nat.le_refl _⟩,⟨by (with_reducible repeat (first | apply Kd.R_alloc | apply Kd.R_drewN | apply Kd.R_drew));exact Kd.R_mono HO134.out (fun _ hk => ⟨hk.1.1.1.1.1.1.2,⟨hk.1.1.1.1.1.2,⟨hk.1.1.1.2,⟨hk.1.1.2,hk.2⟩⟩⟩⟩)⟩,⟨by (with_reducible repeat (first | apply Kd.R_alloc | apply Kd.R_drewN | apply Kd.R_drew));exact Kd.R_mono HO138.out (fun _ hk => ⟨hk.1.1.1.1.1.1.2,⟨hk.1.1.1.1.1.2,⟨hk.1.1.1.2,⟨hk.1.1.2,hk.2⟩⟩⟩⟩)⟩,⟨by (with_reducible repeat (first | apply Kd.R_alloc | apply Kd.R_drewN | apply Kd.R_drew));exact Kd.R_mono HO142.out (fun _ hk => ⟨hk.1.1.1.1.1.1.2,⟨hk.1.1.1.1.1.2,⟨hk.1.1.1.2,⟨hk.1.1.2,hk.2⟩⟩⟩⟩)⟩,⟨by (with_reducible repeat (first | apply Kd.R_alloc | apply Kd.R_drewN | apply Kd.R_drew));exact Kd.R_mono HO150.out (fun _ hk => ⟨hk.1.1.1.1.1.1.2,⟨hk.1.1.1.1.1.2,⟨hk.1.1.1.1.2,⟨hk.1.1.2,hk.2⟩⟩⟩⟩)⟩,⟨by (with_reducible repeat (first | apply Kd.R_alloc | apply Kd.R_drewN | apply Kd.R_drew));exact Kd.R_mono HO154.out (fun _ hk => ⟨hk.1.1.1.1.1.1.2,⟨hk.1.1.1.1.1.2,⟨hk.1.1.1.1.2,⟨hk.1.1.2,hk.2⟩⟩⟩⟩)⟩,⟨by (with_reducible repeat (first | apply Kd.R_alloc | apply Kd.R_drewN | apply Kd.R_drew));exact Kd.R_mono HO162.out (fun _ hk => ⟨hk.1.1.1.1.1.1.2,⟨hk.1.1.1.1.1.2,⟨hk.1.1.1.1.2,⟨hk.1.1.2,hk.1.2⟩⟩⟩⟩)⟩,⟨by repeat (first | (with_reducible first | exact HB.out | apply below_alloc | apply pw_below_drewN | apply below_drew1) | exact HB.out)⟩⟩
              ·rw [if_neg c73] at H
               have c73b0 : (t151 == 0) = false := beq_eq_false_iff_ne.mpr c73
               have c73b1 : (t151 != 0) = true := bne_iff_ne.mpr c73
               have H' := Aside0.mk H
               clear H
               go_wp2
               go_meet
               case rel => exact ⟨_,(true),(by first | rfl | (simp;done) | (simp [*];done)),H',⟨by have := HJ4.out;have := HJ16.out;have := HJ31.out;first | omega | exact Nat.le_refl _⟩,⟨by (with_reducible repeat (first | apply Kd.R_alloc | apply Kd.R_drewN | apply Kd.R_drew));exact Kd.R_mono HO134.out (fun _ hk => ⟨hk.1.1.1.1.1.1.2,⟨hk.1.1.1.1.1.2,⟨hk.1.1.1.2,⟨hk.1.1.2,hk.2⟩⟩⟩⟩)⟩,⟨by (with_reducible repeat (first | apply Kd.R_alloc | apply Kd.R_drewN | apply Kd.R_drew));exact Kd.R_mono HO138.out (fun _ hk => ⟨hk.1.1.1.1.1.1.2,⟨hk.1.1.1.1.1.2,⟨hk.1.1.1.2,⟨hk.1.1.2,hk.2⟩⟩⟩⟩)⟩,⟨by (with_reducible repeat (first | apply Kd.R_alloc | apply Kd.R_drewN | apply Kd.R_drew));exact Kd.R_mono HO142.out (fun _ hk => ⟨hk.1.1.1.1.1.1.2,⟨hk.1.1.1.1.1.2,⟨hk.1.1.1.2,⟨hk.1.1.2,hk.2⟩⟩⟩⟩)⟩,⟨by (with_reducible repeat (first | apply Kd.R_alloc | apply Kd.R_drewN | apply Kd.R_drew));exact Kd.R_mono HO150.out (fun _ hk => ⟨hk.1.1.1.1.1.1.2,⟨hk.1.1.1.1.1.2,⟨hk.1.1.1.1.2,⟨hk.1.1.2,hk.2⟩⟩⟩⟩)⟩,⟨by (with_reducible repeat (first | apply Kd.R_alloc | apply Kd.R_drewN | apply Kd.R_drew));exact Kd.R_mono HO154.out (fun _ hk => ⟨hk.1.1.1.1.1.1.2,⟨hk.1.1.1.1.1.2,⟨hk.1.1.1.1.2,⟨hk.1.1.2,hk.2⟩⟩⟩⟩)⟩,⟨by (with_reducible repeat (first | apply Kd.R_alloc | apply Kd.R_drewN | apply Kd.R_drew));exact Kd.R_mono HO162.out (fun _ hk => ⟨hk.1.1.1.1.1.1.2,⟨hk.1.1.1.1.1.2,⟨hk.1.1.1.1.2,⟨hk.1.1.2,hk.1.2⟩⟩⟩⟩)⟩,⟨by repeat (first | (with_reducible first | exact HB.out | apply below_alloc | apply pw_below_drewN | apply below_drew1) | exact HB.out)⟩⟩
             ·rw [if_neg c72] at H
              have c72b0 : (t147 == 0) = false := beq_eq_false_iff_ne.mpr c72
              have c72b1 : (t147 != 0) = true := bne_iff_ne.mpr c72
              have H' := Aside0.mk H
              clear H
              go_wp2
              go_meet
              case rel => exact ⟨_,(true),(by first | rfl | (simp;done) | (simp [*];done)),H',⟨by have := HJ4.out;have := HJ16.out;have := HJ31.out;first | omega | exact Nat.le_refl _⟩,⟨by (with_reducible repeat (first | apply Kd.R_alloc | apply Kd.R_drewN | apply Kd.R_drew));exact Kd.R_mono HO134.out (fun _ hk => ⟨hk.1.1.1.1.1.1.2,⟨hk.1.1.1.1.1.2,⟨hk.1.1.1.2,⟨hk.1.1.2,hk.2⟩⟩⟩⟩)⟩,⟨by (with_reducible repeat (first | apply Kd.R_alloc | apply Kd.R_drewN | apply Kd.R_drew));exact Kd.R_mono HO138.out (fun _ hk => ⟨hk.1.1.1.1.1.1.2,⟨hk.1.1.1.1.1.2,⟨hk.1.1.1.2,⟨hk.1.1.2,hk.2⟩⟩⟩⟩)⟩,⟨by (with_reducible repeat (first | apply Kd.R_alloc | apply Kd.R_drewN | apply Kd.R_drew));exact Kd.R_mono HO142.out (fun _ hk => ⟨hk.1.1.1.1.1.1.2,⟨hk.1.1.1.1.1.2,⟨hk.1.1.1.2,⟨hk.1.1.2,hk.2⟩⟩⟩⟩)⟩,⟨by (with_reducible repeat (first | apply Kd.R_alloc | apply Kd.R_drewN | apply Kd.R_drew));exact Kd.R_mono HO150.out (fun _ hk => ⟨hk.1.1.1.1.1.1.2,⟨hk.1.1.1.1.1.2,⟨hk.1.1.1.1.2,⟨hk.1.1.2,hk.2⟩⟩⟩⟩)⟩,⟨by (with_reducible repeat (first | apply Kd.R_alloc | apply Kd.R_drewN | apply Kd.R_drew));exact Kd.R_mono HO154.out (fun _ hk => ⟨hk.1.1.1.1.1.1.2,⟨hk.1.1.1.1.1.2,⟨hk.1.1.1.1.2,⟨hk.1.1.2,hk.2⟩⟩⟩⟩)⟩,⟨by (with_reducible repeat (first | apply Kd.R_alloc | apply Kd.R_drewN | apply Kd.R_drew));exact Kd.R_mono HO162.out (fun _ hk => ⟨hk.1.1.1.1.1.1.2,⟨hk.1.1.1.1.1.2,⟨hk.1.1.1.1.2,⟨hk.1.1.2,hk.1.2⟩⟩⟩⟩)⟩,⟨by repeat (first | (with_reducible first | exact HB.out | apply below_alloc | apply pw_below_drewN | apply below_drew1) | exact HB.out)⟩⟩
            ·rw [if_neg c71] at H
             have c71b0 : (t143 == 0) = false := beq_eq_false_iff_ne.mpr c71
             have c71b1 : (t143 != 0) = true := bne_iff_ne.mpr c71
             have H' := Aside0.mk H
             clear H
             go_wp2
             go_meet
             case rel => exact ⟨_,(true),(by first | rfl | (simp;done) | (simp [*];done)),H',⟨by have := HJ4.out;have := HJ16.out;have := HJ31.out;first | omega | exact Nat.le_refl _⟩,⟨by (with_reducible repeat (first | apply Kd.R_alloc | apply Kd.R_drewN | apply Kd.R_drew));exact Kd.R_mono HO134.out (fun _ hk => ⟨hk.1.1.1.1.1.1.2,⟨hk.1.1.1.1.1.2,⟨hk.1.1.1.2,⟨hk.1.1.2,hk.2⟩⟩⟩⟩)⟩,⟨by (with_reducible repeat (first | apply Kd.R_alloc | apply Kd.R_drewN | apply Kd.R_drew));exact Kd.R_mono HO138.out (fun _ hk => ⟨hk.1.1.1.1.1.1.2,⟨hk.1.1.1.1.1.2,⟨hk.1.1.1.2,⟨hk.1.1.2,hk.2⟩⟩⟩⟩)⟩,⟨by (with_reducible repeat (first | apply Kd.R_alloc | apply Kd.R_drewN | apply Kd.R_drew));exact Kd.R_mono HO142.out (fun _ hk => ⟨hk.1.1.1.1.1.1.2,⟨hk.1.1.1.1.1.2,⟨hk.1.1.1.2,⟨hk.1.1.2,hk.2⟩⟩⟩⟩)⟩,⟨by (with_reducible repeat (first | apply Kd.R_alloc | apply Kd.R_drewN | apply Kd.R_drew));exact Kd.R_mono HO150.out (fun _ hk => ⟨hk.1.1.1.1.1.1.2,⟨hk.1.1.1.1.1.2,⟨hk.1.1.1.1.2,⟨hk.1.1.2,hk.2⟩⟩⟩⟩)⟩,⟨by (with_reducible repeat (first | apply Kd.R_alloc | apply Kd.R_drewN | apply Kd.R_drew));exact Kd.R_mono HO154.out (fun _ hk => ⟨hk.1.1.1.1.1.1.2,⟨hk.1.1.1.1.1.2,⟨hk.1.1.1.1.2,⟨hk.1.1.2,hk.2⟩⟩⟩⟩)⟩,⟨by (with_reducible repeat (first | apply Kd.R_alloc | apply Kd.R_drewN | apply Kd.R_drew));exact Kd.R_mono HO162.out (fun _ hk => ⟨hk.1.1.1.1.1.1.2,⟨hk.1.1.1.1.1.2,⟨hk.1.1.1.1.2,⟨hk.1.1.2,hk.1.2⟩⟩⟩⟩)⟩,⟨by repeat (first | (with_reducible first | exact HB.out | apply below_alloc | apply pw_below_drewN | apply below_drew1) | exact HB.out)⟩⟩
           ·rw [if_neg c70] at H
            have c70b0 : (t139 == 0) = false := beq_eq_false_iff_ne.mpr c70
            have c70b1 : (t139 != 0) = true := bne_iff_ne.mpr c70
            have H' := Aside0.mk H
            clear H
            go_wp2
            go_meet
            case rel => exact ⟨_,(true),(by first | rfl | (simp;done) | (simp [*];done)),H',⟨by have := HJ4.out;have := HJ16.out;have := HJ31.out;first | omega | exact Nat.le_refl _⟩,⟨by (with_reducible repeat (first | apply Kd.R_alloc | apply Kd.R_drewN | apply Kd.R_drew));exact Kd.R_mono HO134.out (fun _ hk => ⟨hk.1.1.1.1.1.1.2,⟨hk.1.1.1.1.1.2,⟨hk.1.1.1.2,⟨hk.1.1.2,hk.2⟩⟩⟩⟩)⟩,⟨by (with_reducible repeat (first | apply Kd.R_alloc | apply Kd.R_drewN | apply Kd.R_drew));exact Kd.R_mono HO138.out (fun _ hk => ⟨hk.1.1.1.1.1.1.2,⟨hk.1.1.1.1.1.2,⟨hk.1.1.1.2,⟨hk.1.1.2,hk.2⟩⟩⟩⟩)⟩,⟨by (with_reducible repeat (first | apply Kd.R_alloc | apply Kd.R_drewN | apply Kd.R_drew));exact Kd.R_mono HO142.out (fun _ hk => ⟨hk.1.1.1.1.1.1.2,⟨hk.1.1.1.1.1.2,⟨hk.1.1.1.2,⟨hk.1.1.2,hk.2⟩⟩⟩⟩)⟩,⟨by (with_reducible repeat (first | apply Kd.R_alloc | apply Kd.R_drewN | apply Kd.R_drew));exact Kd.R_mono HO150.out (fun _ hk => ⟨hk.1.1.1.1.1.1.2,⟨hk.1.1.1.1.1.2,⟨hk.1.1.1.1.2,⟨hk.1.1.2,hk.2⟩⟩⟩⟩)⟩,⟨by (with_reducible repeat (first | apply Kd.R_alloc | apply Kd.R_drewN | apply Kd.R_drew));exact Kd.R_mono HO154.out (fun _ hk => ⟨hk.1.1.1.1.1.1.2,⟨hk.1.1.1.1.1.2,⟨hk.1.1.1.1.2,⟨hk.1.1.2,hk.2⟩⟩⟩⟩)⟩,⟨by (with_reducible repeat (first | apply Kd.R_alloc | apply Kd.R_drewN | apply Kd.R_drew));exact Kd.R_mono HO162.out (fun _ hk => ⟨hk.1.1.1.1.1.1.2,⟨hk.1.1.1.1.1.2,⟨hk.1.1.1.1.2,⟨hk.1.1.2,hk.1.2⟩⟩⟩⟩)⟩,⟨by repeat (first | (with_reducible first | exact HB.out | apply below_alloc | apply pw_below_drewN | apply below_drew1) | exact HB.out)⟩⟩
          ·rw [if_neg c69] at H
           have c69b0 : (t135 == 0) = false := beq_eq_false_iff_ne.mpr c69
           have c69b1 : (t135 != 0) = true := bne_iff_ne.mpr c69
           (first | rw [c69b0] | (simp only [i64_w,i32_w];rw [c69b0]) | rw [c69b1] | (simp only [i64_w,i32_w];rw [c69b1]) | skip)
           have H' := Aside0.mk H
           clear H
           go_wp2
           go_meet
           case rel => exact ⟨_,(true),(by first | rfl | (simp;done) | (simp [*];done)),H',⟨by have := HJ4.out;have := HJ16.out;have := HJ31.out;first | omega | exact Nat.le_refl _⟩,⟨by (with_reducible repeat (first | apply Kd.R_alloc | apply Kd.R_drewN | apply Kd.R_drew));exact Kd.R_mono HO134.out (fun _ hk => ⟨hk.1.1.1.1.1.1.2,⟨hk.1.1.1.1.1.2,⟨hk.1.1.1.2,⟨hk.1.1.2,hk.2⟩⟩⟩⟩)⟩,⟨by (with_reducible repeat (first | apply Kd.R_alloc | apply Kd.R_drewN | apply Kd.R_drew));exact Kd.R_mono HO138.out (fun _ hk => ⟨hk.1.1.1.1.1.1.2,⟨hk.1.1.1.1.1.2,⟨hk.1.1.1.2,⟨hk.1.1.2,hk.2⟩⟩⟩⟩)⟩,⟨by (with_reducible repeat (first | apply Kd.R_alloc | apply Kd.R_drewN | apply Kd.R_drew));exact Kd.R_mono HO142.out (fun _ hk => ⟨hk.1.1.1.1.1.1.2,⟨hk.1.1.1.1.1.2,⟨hk.1.1.1.2,⟨hk.1.1.2,hk.2⟩⟩⟩⟩)⟩,⟨by (with_reducible repeat (first | apply Kd.R_alloc | apply Kd.R_drewN | apply Kd.R_drew));exact Kd.R_mono HO150.out (fun _ hk => ⟨hk.1.1.1.1.1.1.2,⟨hk.1.1.1.1.1.2,⟨hk.1.1.1.1.2,⟨hk.1.1.2,hk.2⟩⟩⟩⟩)⟩,⟨by (with_reducible repeat (first | apply Kd.R_alloc | apply Kd.R_drewN | apply Kd.R_drew));exact Kd.R_mono HO154.out (fun _ hk => ⟨hk.1.1.1.1.1.1.2,⟨hk.1.1.1.1.1.2,⟨hk.1.1.1.1.2,⟨hk.1.1.2,hk.2⟩⟩⟩⟩)⟩,⟨by (with_reducible repeat (first | apply Kd.R_alloc | apply Kd.R_drewN | apply Kd.R_drew));exact Kd.R_mono HO162.out (fun _ hk => ⟨hk.1.1.1.1.1.1.2,⟨hk.1.1.1.1.1.2,⟨hk.1.1.1.1.2,⟨hk.1.1.2,hk.1.2⟩⟩⟩⟩)⟩,⟨by repeat (first | (with_reducible first | exact HB.out | apply below_alloc | apply pw_below_drewN | apply below_drew1) | exact HB.out)⟩⟩
         case rest => as_aux_lemma =>
          clear HC57
          try clear c1
          try clear c2
          try clear p2
          try clear c3
          try clear c6
          try clear c7
          try clear c8
          try clear c8b0
          try clear c8b1
          try clear c9
          try clear c9b0
          try clear c9b1
          try clear c10
          try clear c12
          try clear c26
          try clear c26b0
          try clear c26b1
          try clear c27
          try clear c27b0
          try clear c27b1
          try clear c28
          try clear c28b0
          try clear c28b1
          try clear c29
          try clear c29b0
          try clear c29b1
          try clear c30
          try clear c30b0
          try clear c30b1
          try clear c31
          try clear c34
          try clear c36
          try clear c69
          try clear c69b0
          try clear c69b1
          try clear c70
          try clear c70b0
          try clear c70b1
          try clear c71
          try clear c71b0
          try clear c71b1
          try clear c72
          try clear c72b0
          try clear c72b1
          try clear c73
          try clear c73b0
          try clear c73b1
          try clear c74
          try clear c74b0
          try clear c74b1
          try clear c75
          try clear c75b0
          try clear c75b1
          try clear p2
          obtain ⟨kq,x205_56,rfl,HA,HJ56,HO_21,HO_23,HO_25,HO_29,HO_31,HO_35,HB⟩ := hcut
          cases kq with
          | zero => exact absurd HA.out (by simp [tabardlaw1_NatRings.j3])
          | succ kj56 =>
           have H := HA.out
           clear HA
           simp only [tabardlaw1_NatRings.j3] at H
           by_cases c76 : x205_56 = true
           ·subst c76
            have H1 : (some false) = some r := by rw [if_pos rfl] at H;exact H
            clear H
            have H := H1
            clear H1
            obtain rfl := Option.some.inj H
            go_wp2
            go_ret
            exact ⟨by first | rfl | (simp [errW_none,errW_some] <;> rfl) | (simp [*,errW_none,errW_some] <;> rfl),by repeat (first | (with_reducible first | exact HB.out | apply below_alloc | apply pw_below_drewN | apply below_drew1) | exact HB.out)⟩
           ·replace c76 := Bool.eq_false_iff.mpr c76
            subst c76
            have H1 : (if x20_31 = true then ((tabardlaw1_equal.f kj56 t132 t136).bind fun t164 => (if t164 = true then ((tabardlaw1_equal.f kj56 t140 t148).bind fun t165 => (if t165 = true then ((tabardlaw1_equal.f kj56 t152 t160).bind fun t166 => (some t166)) else (some false))) else (some false))) else (some false)) = some r := by rw [if_neg (show ¬ (false = true) by decide)] at H;exact H
            clear H
            have H := H1
            clear H1
            by_cases c77 : x20_31 = true
            ·subst c77
             have H1 : ((tabardlaw1_equal.f kj56 t132 t136).bind fun t164 => (if t164 = true then ((tabardlaw1_equal.f kj56 t140 t148).bind fun t165 => (if t165 = true then ((tabardlaw1_equal.f kj56 t152 t160).bind fun t166 => (some t166)) else (some false))) else (some false))) = some r := by rw [if_pos rfl] at H;exact H
             clear H
             have H := H1
             clear H1
             replace H := Option.bind_eq_some_iff.mp H
             obtain ⟨t164,A780,H⟩ := H
             replace H : (if t164 = true then ((tabardlaw1_equal.f kj56 t140 t148).bind fun t165 => (if t165 = true then ((tabardlaw1_equal.f kj56 t152 t160).bind fun t166 => (some t166)) else (some false))) else (some false)) = some r := H
             have A78 := Aside0.mk A780
             clear A780
             by_cases c79 : t164 = true
             ·subst c79
              have H1 : ((tabardlaw1_equal.f kj56 t140 t148).bind fun t165 => (if t165 = true then ((tabardlaw1_equal.f kj56 t152 t160).bind fun t166 => (some t166)) else (some false))) = some r := by rw [if_pos rfl] at H;exact H
              clear H
              have H := H1
              clear H1
              replace H := Option.bind_eq_some_iff.mp H
              obtain ⟨t165,A800,H⟩ := H
              replace H : (if t165 = true then ((tabardlaw1_equal.f kj56 t152 t160).bind fun t166 => (some t166)) else (some false)) = some r := H
              have A80 := Aside0.mk A800
              clear A800
              by_cases c81 : t165 = true
              ·subst c81
               have H1 : ((tabardlaw1_equal.f kj56 t152 t160).bind fun t166 => (some t166)) = some r := by rw [if_pos rfl] at H;exact H
               clear H
               have H := H1
               clear H1
               replace H := Option.bind_eq_some_iff.mp H
               obtain ⟨t166,A820,H⟩ := H
               replace H : (some t166) = some r := H
               have A82 := Aside0.mk A820
               clear A820
               obtain rfl := Option.some.inj H
               obtain ⟨Ao83,co83,eo83⟩ := Kd.R_slice HO_23.out
               subst eo83
               go_wp2_with (first | (go_at_call 10;(with_reducible refine (tabardlaw1_equal.calls kj56 _ _ t132 _ _ t136 true _ ?side1 ?side2 ?side3 ?side4 A78.out).mono ?_);(case side1 => exact ca_ (Kd.R_reads' HO_21.out).2.2);(case side2 => exact (Kd.R_reads' HO_21.out).2.1);(case side3 => exact ca_ (Kd.R_reads' HO_23.out).2.2);(case side4 => exact (Kd.R_reads' HO_23.out).2.1);rintro e w' ⟨rfl,⟨nd,rfl⟩⟩;obtain ⟨Ao84,co84,eo84⟩ := Kd.R_slice HO_25.out;subst eo84;obtain ⟨Ao85,co85,eo85⟩ := Kd.R_slice HO_29.out;subst eo85) | (go_at_call 10;(with_reducible refine (tabardlaw1_equal.calls kj56 _ _ t140 _ _ t148 true _ ?side1 ?side2 ?side3 ?side4 A80.out).mono ?_);(case side1 => exact ca_ (Kd.R_reads' HO_25.out).2.2);(case side2 => exact (Kd.R_reads' HO_25.out).2.1);(case side3 => exact ca_ (Kd.R_reads' HO_29.out).2.2);(case side4 => exact (Kd.R_reads' HO_29.out).2.1);rintro e w' ⟨rfl,⟨nd,rfl⟩⟩;obtain ⟨Ao86,co86,eo86⟩ := Kd.R_slice HO_31.out;subst eo86;obtain ⟨Ao87,co87,eo87⟩ := Kd.R_slice HO_35.out;subst eo87) | (go_at_call 10;(with_reducible refine (tabardlaw1_equal.calls kj56 _ _ t152 _ _ t160 t166 _ ?side1 ?side2 ?side3 ?side4 A82.out).mono ?_);(case side1 => exact ca_ (Kd.R_reads' HO_31.out).2.2);(case side2 => exact (Kd.R_reads' HO_31.out).2.1);(case side3 => exact ca_ (Kd.R_reads' HO_35.out).2.2);(case side4 => exact (Kd.R_reads' HO_35.out).2.1);rintro e w' ⟨rfl,⟨nd,rfl⟩⟩))
               go_ret
               exact ⟨by first | rfl | (simp [errW_none,errW_some] <;> rfl) | (simp [*,errW_none,errW_some] <;> rfl),by repeat (first | (with_reducible first | exact HB.out | apply below_alloc | apply pw_below_drewN | apply below_drew1) | exact HB.out)⟩
              ·replace c81 := Bool.eq_false_iff.mpr c81
               subst c81
               have H1 : (some false) = some r := by rw [if_neg (show ¬ (false = true) by decide)] at H;exact H
               clear H
               have H := H1
               clear H1
               obtain rfl := Option.some.inj H
               obtain ⟨Ao88,co88,eo88⟩ := Kd.R_slice HO_23.out
               subst eo88
               go_wp2_with (first | (go_at_call 10;(with_reducible refine (tabardlaw1_equal.calls kj56 _ _ t132 _ _ t136 true _ ?side1 ?side2 ?side3 ?side4 A78.out).mono ?_);(case side1 => exact ca_ (Kd.R_reads' HO_21.out).2.2);(case side2 => exact (Kd.R_reads' HO_21.out).2.1);(case side3 => exact ca_ (Kd.R_reads' HO_23.out).2.2);(case side4 => exact (Kd.R_reads' HO_23.out).2.1);rintro e w' ⟨rfl,⟨nd,rfl⟩⟩;obtain ⟨Ao89,co89,eo89⟩ := Kd.R_slice HO_25.out;subst eo89;obtain ⟨Ao90,co90,eo90⟩ := Kd.R_slice HO_29.out;subst eo90) | (go_at_call 10;(with_reducible refine (tabardlaw1_equal.calls kj56 _ _ t140 _ _ t148 false _ ?side1 ?side2 ?side3 ?side4 A80.out).mono ?_);(case side1 => exact ca_ (Kd.R_reads' HO_25.out).2.2);(case side2 => exact (Kd.R_reads' HO_25.out).2.1);(case side3 => exact ca_ (Kd.R_reads' HO_29.out).2.2);(case side4 => exact (Kd.R_reads' HO_29.out).2.1);rintro e w' ⟨rfl,⟨nd,rfl⟩⟩))
               go_ret
               exact ⟨by first | rfl | (simp [errW_none,errW_some] <;> rfl) | (simp [*,errW_none,errW_some] <;> rfl),by repeat (first | (with_reducible first | exact HB.out | apply below_alloc | apply pw_below_drewN | apply below_drew1) | exact HB.out)⟩
             ·replace c79 := Bool.eq_false_iff.mpr c79
              subst c79
              have H1 : (some false) = some r := by rw [if_neg (show ¬ (false = true) by decide)] at H;exact H
              clear H
              have H := H1
              clear H1
              obtain rfl := Option.some.inj H
              obtain ⟨Ao91,co91,eo91⟩ := Kd.R_slice HO_23.out
              subst eo91
              go_wp2_with (first | (go_at_call 10;(with_reducible refine (tabardlaw1_equal.calls kj56 _ _ t132 _ _ t136 false _ ?side1 ?side2 ?side3 ?side4 A78.out).mono ?_);(case side1 => exact ca_ (Kd.R_reads' HO_21.out).2.2);(case side2 => exact (Kd.R_reads' HO_21.out).2.1);(case side3 => exact ca_ (Kd.R_reads' HO_23.out).2.2);(case side4 => exact (Kd.R_reads' HO_23.out).2.1);rintro e w' ⟨rfl,⟨nd,rfl⟩⟩))
              go_ret
              exact ⟨by first | rfl | (simp [errW_none,errW_some] <;> rfl) | (simp [*,errW_none,errW_some] <;> rfl),by repeat (first | (with_reducible first | exact HB.out | apply below_alloc | apply pw_below_drewN | apply below_drew1) | exact HB.out)⟩
            ·replace c77 := Bool.eq_false_iff.mpr c77
             subst c77
             have H1 : (some false) = some r := by rw [if_neg (show ¬ (false = true) by decide)] at H;exact H
             clear H
             have H := H1
             clear H1
             obtain rfl := Option.some.inj H
             go_wp2
             go_ret
             exact ⟨by first | rfl | (simp [errW_none,errW_some] <;> rfl) | (simp [*,errW_none,errW_some] <;> rfl),by repeat (first | (with_reducible first | exact HB.out | apply below_alloc | apply pw_below_drewN | apply below_drew1) | exact HB.out)⟩

end Go.Proofs.YtfcenlhaepckoaaDoor.LNatRings
