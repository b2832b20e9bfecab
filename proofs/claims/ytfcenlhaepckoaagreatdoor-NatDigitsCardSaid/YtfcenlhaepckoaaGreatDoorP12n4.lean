-- Printed by a program of this session (wip/tools) over the kit's print: not trusted, Lean checks it.
import Derived.Test.YtfcenlhaepckoaaGreatDoorP0n4
import Derived.Test.YtfcenlhaepckoaaGreatDoorProg
import Derived.Test.YtfcenlhaepckoaaGreatDoorElibn4
import Derived.Test.YtfcenlhaepckoaaGreatDoorSqn4
import Derived.Test.YtfcenlhaepckoaaGreatDoorP7n4
import Derived.Test.YtfcenlhaepckoaaGreatDoorLibsn4
namespace Go.Proofs.YtfcenlhaepckoaaGreatDoor.P
set_option linter.all false
open Go.RowKit Go.Proofs.YtfcenlhaepckoaaGreatDoorW.PrintWords Go.Proofs.YtfcenlhaepckoaaGreatDoorW.PrintLast Go.Proofs.YtfcenlhaepckoaaGreatDoorW.PrintMore
attribute [local go_sem] max2_int min2_int max_two min_two max_three min_three max_four min_four   -- for this text's walks alone
attribute [local go_sem] cell_after
set_option linter.unusedVariables false
set_option linter.unusedSimpArgs false

/-! ### tabardref1_Digits: function 36 -/
mutual
def tabardref1_Digits.l0 : Nat → List Int → List Int → Option (ByteArray)
 | 0,_,_ => none
 | k + 1,x3,x4 => if (x3.length : Int) > 0 then (tabardref1_Digits.l1 k x3 x4 0 (wrap64 ((x3.length : Int) - 1))) else (tabardref1_Digits.l2 k x4 ([] : List Int) (wrap64 ((x4.length : Int) - 1)))
def tabardref1_Digits.l1 : Nat → List Int → List Int → Int → Int → Option (ByteArray)
 | 0,_,_,_,_ => none
 | k + 1,x3,x4,x5,x6 => if x6 ≥ 0 then (if 0 ≤ x6 then (if x6 < (x3.length : Int) then (tabardref1_Digits.l1 k (x3.set (x6 : Int).toNat ((IntKind.u64.wrap (Int.tdiv (IntKind.u64.wrap ((IntKind.u64.wrap (x5 * 4294967296)) + (IntKind.u64.wrap (rd x3 x6)))) 10)) % 4294967296)) x4 (Int.tmod (IntKind.u64.wrap ((IntKind.u64.wrap (x5 * 4294967296)) + (IntKind.u64.wrap (rd x3 x6)))) 10) (wrap64 (x6 - 1))) else (none)) else (none)) else (if x4.length < 140737488355328 then ((tabardref1_Trim.f k x3).bind fun t551 => (tabardref1_Digits.l0 k t551 (x4 ++ [(IntKind.u64.wrap (48 + x5)) % 256]))) else (none))
def tabardref1_Digits.l2 : Nat → List Int → List Int → Int → Option (ByteArray)
 | 0,_,_,_ => none
 | k + 1,x4,x8,x9 => if x9 ≥ 0 then (if 0 ≤ x9 then (if x9 < (x4.length : Int) then (if x8.length < 140737488355328 then (tabardref1_Digits.l2 k x4 (x8 ++ [rd x4 x9]) (wrap64 (x9 - 1))) else (none)) else (none)) else (none)) else (some (strOfNums x8))
end
def tabardref1_Digits.f (k : Nat) (l0 : List Int) : Option (ByteArray) := (tabardref1_Trim.f k l0).bind fun t543 => (if (t543.length : Int) = 0 then (some (⟨#[48]⟩ : ByteArray)) else (tabardref1_Digits.l0 k t543 ([] : List Int)))
set_option maxHeartbeats 8000000 in
set_option maxRecDepth 100000 in
theorem tabardref1_Digits.calls (k : Nat) (A0 : Option Addr) (c0 : Nat) (l0 : List Int) (r : ByteArray) (w : World) (hr0 : Kd.C (Kd.int .u32) w A0 l0.length l0) (hc0 : l0.length ≤ c0) (h : tabardref1_Digits.f k l0 = some r) :
  Calls Tryz.prog 36 #[.slice A0 l0.length c0] w fun e w' => e = .returned (.string r) ∧ Below w.heap.size w w' := by
 have HR0 := Aside0.mk hr0
 have HC0 := Aside0.mk hc0
 clear hr0 hc0
 have HB := Aside0.mk (Below.refl w.heap.size w)
 have H : ((tabardref1_Trim.f k l0).bind fun t543 => (if (t543.length : Int) = 0 then (some (⟨#[48]⟩ : ByteArray)) else (tabardref1_Digits.l0 k t543 ([] : List Int)))) = some r := h
 clear h
 replace H := Option.bind_eq_some_iff.mp H
 obtain ⟨t543,A20,H⟩ := H
 replace H : (if (t543.length : Int) = 0 then (some (⟨#[48]⟩ : ByteArray)) else (tabardref1_Digits.l0 k t543 ([] : List Int))) = some r := H
 have A2 := Aside0.mk A20
 clear A20
 by_cases c3 : (t543.length : Int) = 0
 ·rw [if_pos c3] at H
  have c3b0 : ((t543.length : Int) == 0) = true := beq_iff_eq.mpr c3
  have c3b1 : ((t543.length : Int) != 0) = false := bne_eq_false_iff_eq.mpr c3
  clear c3
  obtain rfl := Option.some.inj H
  go_enter Tryz.func36,Tryz.ntmps36
  go_wp2_with (first | ((with_reducible refine gate_callee (f := 10) rfl ?_);refine goesL_ (some 11) rfl rfl Tryz.func10 (by kernel_rfl) rfl #[.slice A0 l0.length c0] rfl am_ ?_;(with_reducible refine (tabardref1_Trim.calls k _ _ l0 t543 _ ?side1 ?side2 A2.out).mono ?_);(case side1 => exact ca_ HR0.out);(case side2 => exact HC0.out);rintro e w4 ⟨v544,rfl,ho0,hb⟩;refine ⟨_,rfl,?_⟩;have HO545 := Aside0.mk (Kd.R_lower ho0 (below_size bl_));replace HB := Aside0.mk (below_step bl_ hb);(try clear hb);(try clear hb2);(try clear hk);(try clear hi);(try clear ho0);obtain ⟨Ao5,co5,eo5⟩ := Kd.R_slice HO545.out;subst eo5))
  go_ret
  exact ⟨by first | rfl | (simp [errW_none,errW_some] <;> rfl) | (simp [*,errW_none,errW_some] <;> rfl),by repeat (first | (with_reducible first | exact HB.out | apply below_alloc | apply pw_below_drewN | apply below_drew1) | exact HB.out)⟩
 ·rw [if_neg c3] at H
  have c3b0 : ((t543.length : Int) == 0) = false := beq_eq_false_iff_ne.mpr c3
  have c3b1 : ((t543.length : Int) != 0) = true := bne_iff_ne.mpr c3
  have c3b2 : ¬ (t543 = []) := fun h_ => c3 (by rw [h_];rfl)
  have H' := Aside0.mk H
  clear H
  go_enter Tryz.func36,Tryz.ntmps36
  go_wp2_with (first | ((with_reducible refine gate_callee (f := 10) rfl ?_);refine goesL_ (some 11) rfl rfl Tryz.func10 (by kernel_rfl) rfl #[.slice A0 l0.length c0] rfl am_ ?_;(with_reducible refine (tabardref1_Trim.calls k _ _ l0 t543 _ ?side1 ?side2 A2.out).mono ?_);(case side1 => exact ca_ HR0.out);(case side2 => exact HC0.out);rintro e w6 ⟨v544,rfl,ho0,hb⟩;refine ⟨_,rfl,?_⟩;have HO545 := Aside0.mk (Kd.R_lower ho0 (below_size bl_));replace HB := Aside0.mk (below_step bl_ hb);(try clear hb);(try clear hb2);(try clear hk);(try clear hi);(try clear ho0);obtain ⟨Ao7,co7,eo7⟩ := Kd.R_slice HO545.out;subst eo7))
  go_loopg [3,4] k (fun kq v3 v4 w' => ∃ (x3_1 : List Int) (x4_1 : List Int),Aside0 (tabardref1_Digits.l0 kq x3_1 x4_1 = some r) ∧ Aside0 (kq ≤ k) ∧ Aside0 (Kd.R (Kd.int .u32) 63 w' w.heap.size (fun _ => True) v3 x3_1) ∧ Aside0 (Kd.R (Kd.int .u8) 5 w' w.heap.size (fun _ => True) v4 x4_1) ∧ Aside0 (Below w.heap.size w w'))
  case atStart => exact ⟨(t543),(([] : List Int)),H',⟨Nat.le_refl _⟩,⟨by (with_reducible repeat (first | apply Kd.R_alloc | apply Kd.R_drewN | apply Kd.R_drew));exact HO545.out⟩,⟨by first | exact Kd.R_nil _ _ _ _ _ | exact Kd.N_nil _ _ _ _ _ | exact Kd.V_nil _ _ _ _ _ | exact Kd.Q_nil _ _ _ _ _ | exact Kd.S_nil _ _ _ _ _⟩,⟨by repeat (first | (with_reducible first | exact HB.out | apply below_alloc | apply pw_below_drewN | apply below_drew1) | exact HB.out)⟩⟩
  case round =>
   clear H'
   try clear c1
   try clear p2
   try clear c3
   try clear c3b0
   try clear c3b1
   try clear c3b2
   obtain ⟨x3_1,x4_1,HA,HK1,HO_3,HO_4,HB⟩ := hrel
   cases gk with
   | zero => exact absurd HA.out (by simp [tabardref1_Digits.l0])
   | succ k1 =>
    have H := HA.out
    clear HA
    simp only [tabardref1_Digits.l0] at H
    by_cases c8 : (x3_1.length : Int) > 0
    ·rw [if_pos c8] at H
     have c8b0 : decide (0 < (x3_1.length : Int)) = true := decide_eq_true c8
     have c8b1 : decide (0 < x3_1.length) = true := decide_eq_true (by omega)
     clear c8
     have H' := Aside0.mk H
     clear H
     obtain ⟨Ao9,co9,eo9⟩ := Kd.R_slice HO_3.out
     subst eo9
     go_wp2
     go_loopg [5,6] k1 (fun kq v5 v6 w' => ∃ (x3_2 : List Int) (x5_2 : Int) (x6_2 : Int),v5 = .int .u64 x5_2 ∧ v6 = .int .i64 x6_2 ∧ Aside0 (tabardref1_Digits.l1 kq x3_2 x4_1 x5_2 x6_2 = some r) ∧ Aside0 (kq ≤ k1) ∧ Aside0 (Kd.R (Kd.int .u32) 63 w' w.heap.size (fun _ => True) (.slice Ao9 x3_1.length co9) x3_2) ∧ Aside0 (Kd.R (Kd.int .u8) 5 w' w.heap.size (fun _ => True) u4 x4_1) ∧ Aside0 (Below w.heap.size w w'))
     case atStart => exact ⟨(x3_1),(0),(wrap64 ((x3_1.length : Int) - 1)),(by first | rfl | (simp;done) | (simp [*];done)),(by first | rfl | (simp;done) | (simp [*];done)),H',⟨Nat.le_refl _⟩,⟨by (with_reducible repeat (first | apply Kd.R_alloc | apply Kd.R_drewN | apply Kd.R_drew));exact HO_3.out⟩,⟨by (with_reducible repeat (first | apply Kd.R_alloc | apply Kd.R_drewN | apply Kd.R_drew));exact HO_4.out⟩,⟨by repeat (first | (with_reducible first | exact HB.out | apply below_alloc | apply pw_below_drewN | apply below_drew1) | exact HB.out)⟩⟩
     case round =>
      clear H'
      try clear c1
      try clear p2
      try clear c3
      try clear c3b0
      try clear c3b1
      try clear c3b2
      try clear p6
      try clear c8
      try clear c8b0
      try clear c8b1
      try clear p2
      obtain ⟨x3_2,x5_2,x6_2,rfl,rfl,HA,HK2,HO_3,HO_4,HB⟩ := hrel
      have hl3_2 := (Kd.R_reads' HO_3.out).1
      rw [hl3_2] at HO_3
      (try simp only [hl3_2])
      (try simp only [hl3_2] at HO_4)
      cases gk with
      | zero => exact absurd HA.out (by simp [tabardref1_Digits.l1])
      | succ k2 =>
       have H := HA.out
       clear HA
       simp only [tabardref1_Digits.l1] at H
       by_cases c10 : x6_2 ≥ 0
       ·rw [if_pos c10] at H
        have c10b0 : decide (0 ≤ x6_2) = true := decide_eq_true c10
        clear c10
        by_cases c11 : 0 ≤ x6_2
        ·rw [if_pos c11] at H
         have c11b0 : decide (0 ≤ x6_2) = true := decide_eq_true c11
         clear c11
         by_cases c12 : x6_2 < (x3_2.length : Int)
         ·rw [if_pos c12] at H
          have c12b0 : decide (x6_2 < (x3_2.length : Int)) = true := decide_eq_true c12
          have c12b0h := c12b0
          (try simp only [hl3_2] at c12b0h)
          clear c12
          obtain ⟨y547,hy547⟩ : ∃ y_ : List Int,y_ = (x3_2.set (x6_2 : Int).toNat ((IntKind.u64.wrap (Int.tdiv (IntKind.u64.wrap ((IntKind.u64.wrap (x5_2 * 4294967296)) + (IntKind.u64.wrap (rd x3_2 x6_2)))) 10)) % 4294967296)) := ⟨_,rfl⟩
          replace H : (tabardref1_Digits.l1 k2 y547 x4_1 (Int.tmod (IntKind.u64.wrap ((IntKind.u64.wrap (x5_2 * 4294967296)) + (IntKind.u64.wrap (rd x3_2 x6_2)))) 10) (wrap64 (x6_2 - 1))) = some r := by first | (rw [hy547];with_reducible exact H) | (have H2_ := (Option.bind_some _ _).symm.trans H;rw [hy547];with_reducible exact H2_) | (have H2_ := (Option.bind_some _ _).symm.trans H;with_reducible exact H2_) | with_reducible exact H | (rw [hy547];exact H) | exact H
          have Ny547 := Aside0.mk hy547
          clear hy547
          have H' := Aside0.mk H
          clear H
          have p546 : 0 ≤ (x6_2 : Int) := od_
          have q546 : x6_2 < (x3_2.length : Int) := od_
          obtain ⟨ad546,e546,hx546_0⟩ := Kd.at_int (Kd.R_reads' HO_3.out).2.2 x6_2 p546 q546
          cases e546
          replace p546 := eq_true p546
          replace q546 := eq_true q546
          have p13 : 0 ≤ (x6_2 : Int) := od_
          have q13 : (x6_2 : Int) < ((x3_2.length : Int) : Int) := od_
          obtain ⟨go13,co13,eo13,gb13,gl13,cl13,HG13⟩ := Kd.R_form HO_3.out (by omega)
          (first | cases eo13 | (injection eo13 with ea_ en_ ec_;(first | subst ea_ | (injection ea_ with ea_;subst ea_));subst ec_;clear en_))
          have GB13 := Aside0.mk gb13
          have GG13 := Aside0.mk HG13
          clear gb13 gl13 HG13
          (first | simp only [add_plain] at hx546_0 | skip)
          obtain ⟨hx13_0,hf13_0⟩ := Kd.R_celln 0 HO_3.out (x6_2 : Int) p13 q13
          replace p13 := eq_true p13
          replace q13 := eq_true q13
          have HP14 := Kd.R_putg HO_3.out (x6_2 : Int) ((IntKind.u64.wrap (Int.tdiv (IntKind.u64.wrap ((IntKind.u64.wrap (x5_2 * 4294967296)) + (IntKind.u64.wrap (rd x3_2 x6_2)))) 10)) % 4294967296)
          go_wp2_with (first | ((with_reducible refine gate_store (t := 63) (p := 38) rfl ?_);refine store_event (t := 63) (p := 38) (v := ?vo_w15) (w1 := (wr.setCell ⟨go13,(x6_2 : Int).toNat,none⟩ (.int .u32 ((IntKind.u64.wrap (Int.tdiv (IntKind.u64.wrap ((IntKind.u64.wrap (x5_2 * 4294967296)) + (IntKind.u64.wrap (rd x3_2 x6_2)))) 10)) % 4294967296)))) ?hg ?ho ?hn ?hr ?_;(case ho => rfl);(case hg => rfl);(case hn => rfl);(case hr => first | (go_simp;done) | (go_simp;rfl));intro w15 hw;have hg : wr.grownBy w15 (some go13) := (by rw [hw];exact HP14.2);have hp_ : Kd.R (Kd.int .u32) 63 w15 w.heap.size (fun _ => True) (.slice (some ⟨go13,0,none⟩) x3_2.length co9) y547 := (by rw [hw,Ny547.out];exact HP14.1);clear HP14;replace HO_4 := Aside0.mk (Kd.R_over' (v := (.slice (some ⟨go13,0,none⟩) x3_2.length co9)) (ra_ HO_4.out) (Kd.R_typed HO_3.out) (by decide) hg);replace HO_3 := Aside0.mk (hp_);replace HB := Aside0.mk ((by rw [hw];exact below_set (HB.out) GB13.out : Below w.heap.size w w15));clear hg hw hp_))
          (try simp only [← hl3_2])
          go_roundg k2
          case measure => have := HK1.out;have := HK2.out;omega
          case rel => exact ⟨(y547),(Int.tmod (IntKind.u64.wrap ((IntKind.u64.wrap (x5_2 * 4294967296)) + (IntKind.u64.wrap (rd x3_2 x6_2)))) 10),(wrap64 (x6_2 - 1)),(by first | rfl | (simp;done) | (simp [*];done)),(by first | rfl | (simp;done) | (simp [*];done)),H',⟨by have := HK1.out;have := HK2.out;omega⟩,⟨by (try simp only [hl3_2]);(with_reducible repeat (first | apply Kd.R_alloc | apply Kd.R_drewN | apply Kd.R_drew));exact HO_3.out⟩,⟨by (try simp only [hl3_2]);(with_reducible repeat (first | apply Kd.R_alloc | apply Kd.R_drewN | apply Kd.R_drew));exact HO_4.out⟩,⟨by repeat (first | (with_reducible first | exact HB.out | apply below_alloc | apply pw_below_drewN | apply below_drew1) | exact HB.out)⟩⟩
         ·rw [if_neg c12] at H
          exact absurd H (by simp)
        ·rw [if_neg c11] at H
         exact absurd H (by simp)
       ·rw [if_neg c10] at H
        have c10b0 : decide (0 ≤ x6_2) = false := decide_eq_false c10
        clear c10
        by_cases c16 : x4_1.length < 140737488355328
        ·rw [if_pos c16] at H
         have LMc16 := Aside0.mk c16
         clear c16
         obtain ⟨y548,hy548⟩ : ∃ y_ : List Int,y_ = (x4_1 ++ [(IntKind.u64.wrap (48 + x5_2)) % 256]) := ⟨_,rfl⟩
         replace H : ((tabardref1_Trim.f k2 x3_2).bind fun t551 => (tabardref1_Digits.l0 k2 t551 y548)) = some r := by first | (rw [hy548];with_reducible exact H) | (have H2_ := (Option.bind_some _ _).symm.trans H;rw [hy548];with_reducible exact H2_) | (have H2_ := (Option.bind_some _ _).symm.trans H;with_reducible exact H2_) | with_reducible exact H | (rw [hy548];exact H) | exact H
         have Ny548 := Aside0.mk hy548
         clear hy548
         replace H := Option.bind_eq_some_iff.mp H
         obtain ⟨t551,A170,H⟩ := H
         replace H : (tabardref1_Digits.l0 k2 t551 y548) = some r := H
         have A17 := Aside0.mk A170
         clear A170
         have H' := Aside0.mk H
         clear H
         go_wp2_with (first | ((with_reducible refine gate_builtin (b := .append) (xs := #[.tmp 41,.tmp 45]) rfl ?_);at_builtin;refine Kd.R_append (Kd.int .u8) (w0 := w) w.heap.size rfl (.tmp 41) (.tmp 45) 88 5 (.int .u8 0) 1 rfl Tryz.underlying88 info5 rfl (by decide) (by omega) u4 x4_1 ((IntKind.u64.wrap (48 + x5_2)) % 256) [.int .u8 ((IntKind.u64.wrap (48 + x5_2)) % 256)] (fun _ => True) (fun _ => False) rfl rfl ?aP (fun _ hk => hk.elim) ?aF ?aO ?aB ?aS ?aL ?_;(case aP => exact rfl);(case aB => exact bl_);(case aF => exact (fun _ _ => trivial));(case aO => exact (ra_ HO_4.out));(case aS => exact (below_size bl_));(case aL => have := LMc16.out;omega);intro v549 w18 ho hb hg hat;rw [← Ny548.out] at ho;replace HO_3 := Aside0.mk (Kd.R_over' (ra_ HO_3.out) (Kd.R_typed (ra_ HO_4.out)) (by decide) hg);replace HB := Aside0.mk (hb);have HO550 := Aside0.mk (ho);clear HO_4;clear ho hb hg hat) | ((with_reducible refine gate_callee (f := 10) rfl ?_);refine goesL_ (some 48) rfl rfl Tryz.func10 (by kernel_rfl) rfl #[.slice Ao9 x3_2.length co9] rfl am_ ?_;(with_reducible refine (tabardref1_Trim.calls k2 _ _ x3_2 t551 _ ?side1 ?side2 A17.out).mono ?_);(case side1 => exact ca_ (Kd.R_reads' HO_3.out).2.2);(case side2 => exact (Kd.R_reads' HO_3.out).2.1);rintro e w19 ⟨v552,rfl,ho0,hb⟩;refine ⟨_,rfl,?_⟩;replace HO550 := Aside0.mk (Kd.R_below (ra_ HO550.out) hb);have HO553 := Aside0.mk (Kd.R_lower (Kd.R_new' ho0 (Kd.R_lt (ra_ HO_3.out))) (below_size bl_));replace HO_3 := Aside0.mk (Kd.R_elder' (ra_ HO_3.out) (Kd.R_base ho0) hb);replace HB := Aside0.mk (below_step bl_ hb);(try clear hb);(try clear hb2);(try clear hk);(try clear hi);(try clear ho0)))
         (try simp only [← hl3_2])
         go_roundg k2
         case measure => have := HK1.out;have := HK2.out;omega
         case rel => exact ⟨(t551),(y548),H',⟨by have := HK1.out;have := HK2.out;omega⟩,⟨by (try simp only [hl3_2]);(with_reducible repeat (first | apply Kd.R_alloc | apply Kd.R_drewN | apply Kd.R_drew));exact Kd.R_mono HO553.out (fun _ hk => trivial)⟩,⟨by (try simp only [hl3_2]);(with_reducible repeat (first | apply Kd.R_alloc | apply Kd.R_drewN | apply Kd.R_drew));exact HO550.out⟩,⟨by repeat (first | (with_reducible first | exact HB.out | apply below_alloc | apply pw_below_drewN | apply below_drew1) | exact HB.out)⟩⟩
        ·rw [if_neg c16] at H
         exact absurd H (by simp)
    ·rw [if_neg c8] at H
     have c8b0 : decide (0 < (x3_1.length : Int)) = false := decide_eq_false c8
     have c8b1 : decide (0 < x3_1.length) = false := decide_eq_false (by omega)
     clear c8
     have H' := Aside0.mk H
     clear H
     obtain ⟨Ao20,co20,eo20⟩ := Kd.R_slice HO_3.out
     subst eo20
     obtain ⟨Ao21,co21,eo21⟩ := Kd.R_slice HO_4.out
     subst eo21
     go_wp2
     go_loopg [8,9] k1 (fun kq v8 v9 w' => ∃ (x8_2 : List Int) (x9_2 : Int),v9 = .int .i64 x9_2 ∧ Aside0 (tabardref1_Digits.l2 kq x4_1 x8_2 x9_2 = some r) ∧ Aside0 (kq ≤ k1) ∧ Aside0 (Kd.R (Kd.int .u8) 5 w' w.heap.size (fun k_ => some k_ ≠ (v8 : Value).ownBlock) (.slice Ao21 x4_1.length co21) x4_1) ∧ Aside0 (Kd.R (Kd.int .u8) 5 w' w.heap.size (fun k_ => some k_ ≠ ((.slice Ao21 x4_1.length co21) : Value).ownBlock) v8 x8_2) ∧ Aside0 (Below w.heap.size w w'))
     case atStart => exact ⟨(([] : List Int)),(wrap64 ((x4_1.length : Int) - 1)),(by first | rfl | (simp;done) | (simp [*];done)),H',⟨Nat.le_refl _⟩,⟨by (with_reducible repeat (first | apply Kd.R_alloc | apply Kd.R_drewN | apply Kd.R_drew));exact Kd.R_mono HO_4.out (fun _ hk => (by simp [Value.ownBlock]))⟩,⟨by first | exact Kd.R_nil _ _ _ _ _ | exact Kd.N_nil _ _ _ _ _ | exact Kd.V_nil _ _ _ _ _ | exact Kd.Q_nil _ _ _ _ _ | exact Kd.S_nil _ _ _ _ _⟩,⟨by repeat (first | (with_reducible first | exact HB.out | apply below_alloc | apply pw_below_drewN | apply below_drew1) | exact HB.out)⟩⟩
     case round =>
      clear H'
      try clear c1
      try clear p1
      try clear q1
      try clear hx1
      try clear hf1
      try clear p2
      try clear c3
      try clear c3b0
      try clear c3b1
      try clear c3b2
      try clear p5
      try clear q5
      try clear hx5
      try clear p6
      try clear c8
      try clear c8b0
      try clear c8b1
      try clear c10
      try clear c10b0
      try clear c11
      try clear c11b0
      try clear c12
      try clear c12b0
      try clear p13
      try clear q13
      try clear hx13
      try clear hf13
      try clear c16
      try clear hx13_0
      try clear hx546_0
      try clear p13
      try clear p2
      try clear p546
      try clear p6
      try clear q13
      try clear q546
      obtain ⟨x8_2,x9_2,rfl,HA,HK2,HO_4,HO_8,HB⟩ := hrel
      cases gk with
      | zero => exact absurd HA.out (by simp [tabardref1_Digits.l2])
      | succ k2 =>
       have H := HA.out
       clear HA
       simp only [tabardref1_Digits.l2] at H
       by_cases c22 : x9_2 ≥ 0
       ·rw [if_pos c22] at H
        have c22b0 : decide (0 ≤ x9_2) = true := decide_eq_true c22
        clear c22
        by_cases c23 : 0 ≤ x9_2
        ·rw [if_pos c23] at H
         have c23b0 : decide (0 ≤ x9_2) = true := decide_eq_true c23
         clear c23
         by_cases c24 : x9_2 < (x4_1.length : Int)
         ·rw [if_pos c24] at H
          have c24b0 : decide (x9_2 < (x4_1.length : Int)) = true := decide_eq_true c24
          clear c24
          by_cases c25 : x8_2.length < 140737488355328
          ·rw [if_pos c25] at H
           have LMc25 := Aside0.mk c25
           clear c25
           obtain ⟨y555,hy555⟩ : ∃ y_ : List Int,y_ = (x8_2 ++ [rd x4_1 x9_2]) := ⟨_,rfl⟩
           replace H : (tabardref1_Digits.l2 k2 x4_1 y555 (wrap64 (x9_2 - 1))) = some r := by first | (rw [hy555];with_reducible exact H) | (have H2_ := (Option.bind_some _ _).symm.trans H;rw [hy555];with_reducible exact H2_) | (have H2_ := (Option.bind_some _ _).symm.trans H;with_reducible exact H2_) | with_reducible exact H | (rw [hy555];exact H) | exact H
           have Ny555 := Aside0.mk hy555
           clear hy555
           have H' := Aside0.mk H
           clear H
           have p554 : 0 ≤ (x9_2 : Int) := od_
           have q554 : x9_2 < (x4_1.length : Int) := od_
           obtain ⟨ad554,e554,hx554_0⟩ := Kd.at_int (Kd.R_reads' HO_4.out).2.2 x9_2 p554 q554
           cases e554
           replace p554 := eq_true p554
           replace q554 := eq_true q554
           go_wp2_with (first | ((with_reducible refine gate_builtin (b := .append) (xs := #[.tmp 56,.tmp 61]) rfl ?_);at_builtin;refine Kd.R_append (Kd.int .u8) (w0 := w) w.heap.size rfl (.tmp 56) (.tmp 61) 88 5 (.int .u8 0) 1 rfl Tryz.underlying88 info5 rfl (by decide) (by omega) u8 x8_2 (rd x4_1 x9_2) [.int .u8 (rd x4_1 x9_2)] (fun k_ => some k_ ≠ (.slice (some ad554) x4_1.length co21 : Value).ownBlock) (fun _ => False) rfl rfl ?aP (fun _ hk => hk.elim) ?aF ?aO ?aB ?aS ?aL ?_;(case aP => exact rfl);(case aB => exact bl_);(case aF => exact (fun k_ hk => Kd.fresh' (Kd.R_lt (ra_ HO_4.out)) k_ hk));(case aO => exact (ra_ HO_8.out));(case aS => exact (below_size bl_));(case aL => have := LMc25.out;omega);intro v556 w26 ho hb hg hat;rw [← Ny555.out] at ho;replace HO_4 := Aside0.mk (Kd.R_after (ok := (fun _ => True)) (by (with_reducible repeat (first | apply Kd.R_alloc | apply Kd.R_drewN | apply Kd.R_drew));exact Kd.R_mono HO_4.out (fun _ hk => ⟨trivial,hk⟩)) hg hat);replace HB := Aside0.mk (hb);have HO557 := Aside0.mk (ho);clear HO_8;clear ho hb hg hat))
           go_roundg k2
           case measure => have := HK1.out;have := HK2.out;omega
           case rel => exact ⟨(y555),(wrap64 (x9_2 - 1)),(by first | rfl | (simp;done) | (simp [*];done)),H',⟨by have := HK1.out;have := HK2.out;omega⟩,⟨by (with_reducible repeat (first | apply Kd.R_alloc | apply Kd.R_drewN | apply Kd.R_drew));exact Kd.R_mono HO_4.out (fun _ hk => hk.2)⟩,⟨by (with_reducible repeat (first | apply Kd.R_alloc | apply Kd.R_drewN | apply Kd.R_drew));exact HO557.out⟩,⟨by repeat (first | (with_reducible first | exact HB.out | apply below_alloc | apply pw_below_drewN | apply below_drew1) | exact HB.out)⟩⟩
          ·rw [if_neg c25] at H
           exact absurd H (by simp)
         ·rw [if_neg c24] at H
          exact absurd H (by simp)
        ·rw [if_neg c23] at H
         exact absurd H (by simp)
       ·rw [if_neg c22] at H
        have c22b0 : decide (0 ≤ x9_2) = false := decide_eq_false c22
        clear c22
        obtain rfl := Option.some.inj H
        have hcv27 := own_string (P := Tryz.prog) Tryz.underlying88 Tryz.underlying5 Tryz.underlying9 (Kd.own_of_R HO_8.out)
        go_wp2
        go_ret
        exact ⟨by first | rfl | (simp [errW_none,errW_some] <;> rfl) | (simp [*,errW_none,errW_some] <;> rfl),by repeat (first | (with_reducible first | exact HB.out | apply below_alloc | apply pw_below_drewN | apply below_drew1) | exact HB.out)⟩

end Go.Proofs.YtfcenlhaepckoaaGreatDoor.P
