-- Printed by a program of this session (wip/tools) over the kit's print: not trusted, Lean checks it.
import Derived.Test.YtneeeaafhjaooaaGreatDoorP0q6
import Derived.Test.YtneeeaafhjaooaaGreatDoorProg
import Derived.Test.YtneeeaafhjaooaaGreatDoorElibq6
import Derived.Test.YtneeeaafhjaooaaGreatDoorP7q6
import Derived.Test.YtneeeaafhjaooaaGreatDoorP8q6
import Derived.Test.YtneeeaafhjaooaaGreatDoorLibsq6
namespace Go.Proofs.YtneeeaafhjaooaaGreatDoor.P
set_option linter.all false
open Go.RowKit Go.Proofs.YtneeeaafhjaooaaGreatDoorW.PrintWords Go.Proofs.YtneeeaafhjaooaaGreatDoorW.PrintLast Go.Proofs.YtneeeaafhjaooaaGreatDoorW.PrintMore
attribute [local go_sem] max2_int min2_int max_two min_two max_three min_three max_four min_four   -- for this text's walks alone
attribute [local go_sem] cell_after
set_option linter.unusedVariables false
set_option linter.unusedSimpArgs false

/-! ### tabardref7_size: function 26 -/
mutual
def tabardref7_size.j0 : Nat → Bool → Bool → ByteArray → Int → Bool → ByteArray → Int → Option (Int)
 | 0,_,_,_,_,_,_,_ => none
 | k + 1,x19,x208000,x208001,x208002,x209000,x209001,x209002 => if x19 = true then (if (x208001.size : Int) > 0 then (some 1) else (if (x209001.size : Int) > 0 then (some (-1)) else (some 0))) else ((tabardref7_Point.f k x208000 x208001 x208002).bind fun t209 => ((tabardref7_Point.f k x209000 x209001 x209002).bind fun t210 => (if t209 = t210 then (tabardref7_size.l0 k t209 0 x208000 x208001 x208002 x209000 x209001 x209002) else (if t209 < t210 then (some (-1)) else (some 1)))))
def tabardref7_size.l0 : Nat → Int → Int → Bool → ByteArray → Int → Bool → ByteArray → Int → Option (Int)
 | 0,_,_,_,_,_,_,_,_ => none
 | k + 1,x5,x7,x208000,x208001,x208002,x209000,x209001,x209002 => if x7 < (x208001.size : Int) then (tabardref7_size.j2 k x5 x7 true x208000 x208001 x208002 x209000 x209001 x209002) else (tabardref7_size.j2 k x5 x7 (decide (x7 < (x209001.size : Int))) x208000 x208001 x208002 x209000 x209001 x209002)
def tabardref7_size.j2 : Nat → Int → Int → Bool → Bool → ByteArray → Int → Bool → ByteArray → Int → Option (Int)
 | 0,_,_,_,_,_,_,_,_,_ => none
 | k + 1,x5,x7,x49,x208000,x208001,x208002,x209000,x209001,x209002 => if x49 = true then ((tabardref7_at.f x208000 x208001 x208002 (wrap64 ((wrap64 (x5 - 1)) - x7))).bind fun t211 => ((tabardref7_at.f x209000 x209001 x209002 (wrap64 ((wrap64 (x5 - 1)) - x7))).bind fun t212 => (if t211 < t212 then (some (-1)) else (if t211 > t212 then (some 1) else (tabardref7_size.l0 k x5 (wrap64 (x7 + 1)) x208000 x208001 x208002 x209000 x209001 x209002))))) else (some 0)
end
def tabardref7_size.f (k : Nat) (a0_0 : Bool) (a0_1 : ByteArray) (a0_2 : Int) (a1_0 : Bool) (a1_1 : ByteArray) (a1_2 : Int) : Option (Int) := if (a0_1.size : Int) = 0 then (tabardref7_size.j0 k true a0_0 a0_1 a0_2 a1_0 a1_1 a1_2) else (tabardref7_size.j0 k ((a1_1.size : Int) == 0) a0_0 a0_1 a0_2 a1_0 a1_1 a1_2)
set_option maxHeartbeats 8000000 in
set_option maxRecDepth 100000 in
theorem tabardref7_size.calls (k : Nat) (a0_0 : Bool) (a0_1 : ByteArray) (a0_2 : Int) (a1_0 : Bool) (a1_1 : ByteArray) (a1_2 : Int) (r : Int) (w : World) (h : tabardref7_size.f k a0_0 a0_1 a0_2 a1_0 a1_1 a1_2 = some r) :
  Calls Tryz.prog 26 #[.agg #[.bool a0_0,.string a0_1,.int .i64 a0_2],.agg #[.bool a1_0,.string a1_1,.int .i64 a1_2]] w fun e w' => e = .returned (.int .i64 r) ∧ Below w.heap.size w w' := by
 have hu23 := Tryz.underlying23
 have HB := Aside0.mk (Below.refl w.heap.size w)
 have H : (if (a0_1.size : Int) = 0 then (tabardref7_size.j0 k true a0_0 a0_1 a0_2 a1_0 a1_1 a1_2) else (tabardref7_size.j0 k ((a1_1.size : Int) == 0) a0_0 a0_1 a0_2 a1_0 a1_1 a1_2)) = some r := h
 clear h
 have HC3 := Aside0.mk H
 clear H
 go_enter Tryz.func26,Tryz.ntmps26
 go_upto_region 1 with (first | ((with_reducible refine gate_dst (N := 2) rfl ?_);(try (refine gate_guard (by rfl) ?_;dsimp only));refine box_event ?hg (N := 2) ?hd (cs := #[.bool a0_0,.string a0_1,.int .i64 a0_2]) (t := 23) ?hr ?_;(case hd => rfl);(case hg => rfl);(case hr => first | (go_simp;done) | (go_simp;rfl));intro gb207 hg w4 hbox hb;have n0_ := Aside0.mk (below_step (by repeat (first | (with_reducible first | exact HB.out | apply below_alloc | apply pw_below_drewN | apply below_drew1) | exact HB.out)) hb);have n1_ := Aside0.mk (hbox);have n2_ := Aside0.mk ((by rw [hg];exact (below_size (by repeat (first | (with_reducible first | exact HB.out | apply below_alloc | apply pw_below_drewN | apply below_drew1) | exact HB.out))) : w.heap.size ≤ gb207));have n3_ := Aside0.mk ((by rw [hg];exact (below_size (by repeat (first | (with_reducible first | exact HB.out | apply below_alloc | apply pw_below_drewN | apply below_drew1) | exact HB.out))) : w.heap.size ≤ gb207));clear HB;have HB := n0_;have BK207 := n1_;have GW207 := n2_;have GE207 := n3_;clear n0_ n1_ n2_ n3_;clear hb hbox hg) | ((with_reducible refine gate_dst (N := 3) rfl ?_);(try (refine gate_guard (by rfl) ?_;dsimp only));refine box_event ?hg (N := 3) ?hd (cs := #[.bool a1_0,.string a1_1,.int .i64 a1_2]) (t := 23) ?hr ?_;(case hd => rfl);(case hg => rfl);(case hr => first | (go_simp;done) | (go_simp;rfl));intro gb208 hg w5 hbox hb;have n0_ := Aside0.mk (blk_below (g := gb207) (o := .cells #[.bool a0_0,.string a0_1,.int .i64 a0_2] 23 (0,0)) (by (with_reducible repeat (first | refine blk_drewN ?_ _ | refine blk_drew ?_ | refine blk_alloc ?_ _));exact BK207.out) hb);have n1_ := Aside0.mk (below_step (by repeat (first | (with_reducible first | exact HB.out | apply below_alloc | apply pw_below_drewN | apply below_drew1 | refine below_set ?_ GE207.out) | exact HB.out)) hb);have n2_ := Aside0.mk (hbox);have n3_ := Aside0.mk ((by rw [hg];exact (below_size (by repeat (first | (with_reducible first | exact HB.out | apply below_alloc | apply pw_below_drewN | apply below_drew1 | refine below_set ?_ GE207.out) | exact HB.out))) : w.heap.size ≤ gb208));have n4_ := Aside0.mk ((by rw [hg];exact (below_size (by repeat (first | (with_reducible first | exact HB.out | apply below_alloc | apply pw_below_drewN | apply below_drew1 | refine below_set ?_ GE207.out) | exact HB.out))) : w.heap.size ≤ gb208));have n5_ := Aside0.mk ((by rw [hg];exact Nat.ne_of_lt (blk_lt (g := gb207) (o := .cells #[.bool a0_0,.string a0_1,.int .i64 a0_2] 23 (0,0)) (by (with_reducible repeat (first | refine blk_drewN ?_ _ | refine blk_drew ?_ | refine blk_alloc ?_ _));exact BK207.out)) : gb207 ≠ gb208));have n6_ := Aside0.mk ((by rw [hg];exact Nat.ne_of_gt (blk_lt (g := gb207) (o := .cells #[.bool a0_0,.string a0_1,.int .i64 a0_2] 23 (0,0)) (by (with_reducible repeat (first | refine blk_drewN ?_ _ | refine blk_drew ?_ | refine blk_alloc ?_ _));exact BK207.out)) : gb208 ≠ gb207));clear BK207;clear HB;have BK207 := n0_;have HB := n1_;have BK208 := n2_;have GW208 := n3_;have GE208 := n4_;have NB207_208 := n5_;have NB208_207 := n6_;clear n0_ n1_ n2_ n3_ n4_ n5_ n6_;clear hb hbox hg))
 (try simp only [Act.put,List.setIfInBounds_toArray,List.set_cons_zero,List.set_cons_succ])
 go_cut [19] (fun v19 wc => ∃ (kq : Nat) (x19_2 : Bool),v19 = .bool x19_2 ∧ Aside0 (tabardref7_size.j0 kq x19_2 a0_0 a0_1 a0_2 a1_0 a1_1 a1_2 = some r) ∧ Aside0 (kq ≤ k) ∧ Aside0 (wc.heap[gb207]? = some (.cells #[.bool a0_0,.string a0_1,.int .i64 a0_2] 23 (0,0))) ∧ Aside0 (wc.heap[gb208]? = some (.cells #[.bool a1_0,.string a1_1,.int .i64 a1_2] 23 (0,0))) ∧ Aside0 (Below w.heap.size w wc))
 case first =>
  have H := HC3.out
  clear HC3
  by_cases c6 : (a0_1.size : Int) = 0
  ·rw [if_pos c6] at H
   have c6b0 : ((a0_1.size : Int) == 0) = true := beq_iff_eq.mpr c6
   have c6b1 : ((a0_1.size : Int) != 0) = false := bne_eq_false_iff_eq.mpr c6
   clear c6
   (first | rw [c6b0] | (simp only [i64_w,i32_w];rw [c6b0]) | skip)
   have H' := Aside0.mk H
   clear H
   have hnb7 := NB207_208.out
   have hnc7 := NB208_207.out
   have hcz8_0 : w5.cell? ⟨gb207,0,none⟩ = some (.bool a0_0) := (blk_cell BK207.out 0).trans rfl
   have hcz8_1 : w5.cell? ⟨gb207,1,none⟩ = some (.string a0_1) := (blk_cell BK207.out 1).trans rfl
   have hcz8_2 : w5.cell? ⟨gb207,2,none⟩ = some (.int .i64 a0_2) := (blk_cell BK207.out 2).trans rfl
   have hfz8_0 := blk_frozen BK207.out 0
   have hfz8_1 := blk_frozen BK207.out 1
   have hfz8_2 := blk_frozen BK207.out 2
   go_wp2
   go_meet
   case rel => exact ⟨_,(true),(by first | rfl | (simp;done) | (simp [*];done)),H',⟨by first | omega | exact Nat.le_refl _⟩,⟨by (with_reducible repeat (first | refine blk_drewN ?_ _ | refine blk_drew ?_ | refine blk_alloc ?_ _));exact BK207.out⟩,⟨by (with_reducible repeat (first | refine blk_drewN ?_ _ | refine blk_drew ?_ | refine blk_alloc ?_ _));exact BK208.out⟩,⟨by repeat (first | (with_reducible first | exact HB.out | apply below_alloc | apply pw_below_drewN | apply below_drew1 | refine below_set ?_ GE207.out | refine below_set ?_ GE208.out) | exact HB.out)⟩⟩
  ·rw [if_neg c6] at H
   have c6b0 : ((a0_1.size : Int) == 0) = false := beq_eq_false_iff_ne.mpr c6
   have c6b1 : ((a0_1.size : Int) != 0) = true := bne_iff_ne.mpr c6
   (first | rw [c6b0] | (simp only [i64_w,i32_w];rw [c6b0]) | skip)
   have H' := Aside0.mk H
   clear H
   have hnb9 := NB207_208.out
   have hnc9 := NB208_207.out
   have hcz10_0 : w5.cell? ⟨gb207,0,none⟩ = some (.bool a0_0) := (blk_cell BK207.out 0).trans rfl
   have hcz10_1 : w5.cell? ⟨gb207,1,none⟩ = some (.string a0_1) := (blk_cell BK207.out 1).trans rfl
   have hcz10_2 : w5.cell? ⟨gb207,2,none⟩ = some (.int .i64 a0_2) := (blk_cell BK207.out 2).trans rfl
   have hfz10_0 := blk_frozen BK207.out 0
   have hfz10_1 := blk_frozen BK207.out 1
   have hfz10_2 := blk_frozen BK207.out 2
   have hcz11_0 : w5.cell? ⟨gb208,0,none⟩ = some (.bool a1_0) := (blk_cell BK208.out 0).trans rfl
   have hcz11_1 : w5.cell? ⟨gb208,1,none⟩ = some (.string a1_1) := (blk_cell BK208.out 1).trans rfl
   have hcz11_2 : w5.cell? ⟨gb208,2,none⟩ = some (.int .i64 a1_2) := (blk_cell BK208.out 2).trans rfl
   have hfz11_0 := blk_frozen BK208.out 0
   have hfz11_1 := blk_frozen BK208.out 1
   have hfz11_2 := blk_frozen BK208.out 2
   go_wp2
   go_meet
   case rel => exact ⟨_,(((a1_1.size : Int) == 0)),(by first | rfl | (simp;done) | (simp [*];done)),H',⟨by first | omega | exact Nat.le_refl _⟩,⟨by (with_reducible repeat (first | refine blk_drewN ?_ _ | refine blk_drew ?_ | refine blk_alloc ?_ _));exact BK207.out⟩,⟨by (with_reducible repeat (first | refine blk_drewN ?_ _ | refine blk_drew ?_ | refine blk_alloc ?_ _));exact BK208.out⟩,⟨by repeat (first | (with_reducible first | exact HB.out | apply below_alloc | apply pw_below_drewN | apply below_drew1 | refine below_set ?_ GE207.out | refine below_set ?_ GE208.out) | exact HB.out)⟩⟩
 case rest =>
  clear HC3
  try clear c2
  try clear p2
  try clear c6
  try clear c6b0
  try clear c6b1
  try clear c7
  try clear c9
  try clear hcz10_0
  try clear hcz10_1
  try clear hcz10_2
  try clear hcz11_0
  try clear hcz11_1
  try clear hcz11_2
  try clear hcz8_0
  try clear hcz8_1
  try clear hcz8_2
  try clear hfz10_0
  try clear hfz10_1
  try clear hfz10_2
  try clear hfz11_0
  try clear hfz11_1
  try clear hfz11_2
  try clear hfz8_0
  try clear hfz8_1
  try clear hfz8_2
  obtain ⟨kq,x19_2,rfl,HA,HJ2,BK207,BK208,HB⟩ := hcut
  cases kq with
  | zero => exact absurd HA.out (by simp [tabardref7_size.j0])
  | succ kj2 =>
   have H := HA.out
   clear HA
   simp only [tabardref7_size.j0] at H
   by_cases c12 : x19_2 = true
   ·subst c12
    have H1 : (if (a0_1.size : Int) > 0 then (some 1) else (if (a1_1.size : Int) > 0 then (some (-1)) else (some 0))) = some r := by rw [if_pos rfl] at H;exact H
    clear H
    have H := H1
    clear H1
    by_cases c13 : (a0_1.size : Int) > 0
    ·rw [if_pos c13] at H
     have c13b0 : decide (0 < (a0_1.size : Int)) = true := decide_eq_true c13
     have c13b1 : decide (0 < a0_1.size) = true := decide_eq_true (by omega)
     clear c13
     obtain rfl := Option.some.inj H
     have hnb14 := NB207_208.out
     have hnc14 := NB208_207.out
     have hcz15_0 : wc.cell? ⟨gb207,0,none⟩ = some (.bool a0_0) := (blk_cell BK207.out 0).trans rfl
     have hcz15_1 : wc.cell? ⟨gb207,1,none⟩ = some (.string a0_1) := (blk_cell BK207.out 1).trans rfl
     have hcz15_2 : wc.cell? ⟨gb207,2,none⟩ = some (.int .i64 a0_2) := (blk_cell BK207.out 2).trans rfl
     have hfz15_0 := blk_frozen BK207.out 0
     have hfz15_1 := blk_frozen BK207.out 1
     have hfz15_2 := blk_frozen BK207.out 2
     go_wp2
     go_ret
     exact ⟨by first | rfl | (simp [errW_none,errW_some] <;> rfl) | (simp [*,errW_none,errW_some] <;> rfl),by repeat (first | (with_reducible first | exact HB.out | apply below_alloc | apply pw_below_drewN | apply below_drew1 | refine below_set ?_ GE207.out | refine below_set ?_ GE208.out) | exact HB.out)⟩
    ·rw [if_neg c13] at H
     have c13b0 : decide (0 < (a0_1.size : Int)) = false := decide_eq_false c13
     have c13b1 : decide (0 < a0_1.size) = false := decide_eq_false (by omega)
     clear c13
     by_cases c16 : (a1_1.size : Int) > 0
     ·rw [if_pos c16] at H
      have c16b0 : decide (0 < (a1_1.size : Int)) = true := decide_eq_true c16
      have c16b1 : decide (0 < a1_1.size) = true := decide_eq_true (by omega)
      clear c16
      obtain rfl := Option.some.inj H
      have hnb17 := NB207_208.out
      have hnc17 := NB208_207.out
      have hcz18_0 : wc.cell? ⟨gb207,0,none⟩ = some (.bool a0_0) := (blk_cell BK207.out 0).trans rfl
      have hcz18_1 : wc.cell? ⟨gb207,1,none⟩ = some (.string a0_1) := (blk_cell BK207.out 1).trans rfl
      have hcz18_2 : wc.cell? ⟨gb207,2,none⟩ = some (.int .i64 a0_2) := (blk_cell BK207.out 2).trans rfl
      have hfz18_0 := blk_frozen BK207.out 0
      have hfz18_1 := blk_frozen BK207.out 1
      have hfz18_2 := blk_frozen BK207.out 2
      have hcz19_0 : wc.cell? ⟨gb208,0,none⟩ = some (.bool a1_0) := (blk_cell BK208.out 0).trans rfl
      have hcz19_1 : wc.cell? ⟨gb208,1,none⟩ = some (.string a1_1) := (blk_cell BK208.out 1).trans rfl
      have hcz19_2 : wc.cell? ⟨gb208,2,none⟩ = some (.int .i64 a1_2) := (blk_cell BK208.out 2).trans rfl
      have hfz19_0 := blk_frozen BK208.out 0
      have hfz19_1 := blk_frozen BK208.out 1
      have hfz19_2 := blk_frozen BK208.out 2
      go_wp2
      go_ret
      exact ⟨by first | rfl | (simp [errW_none,errW_some] <;> rfl) | (simp [*,errW_none,errW_some] <;> rfl),by repeat (first | (with_reducible first | exact HB.out | apply below_alloc | apply pw_below_drewN | apply below_drew1 | refine below_set ?_ GE207.out | refine below_set ?_ GE208.out) | exact HB.out)⟩
     ·rw [if_neg c16] at H
      have c16b0 : decide (0 < (a1_1.size : Int)) = false := decide_eq_false c16
      have c16b1 : decide (0 < a1_1.size) = false := decide_eq_false (by omega)
      clear c16
      obtain rfl := Option.some.inj H
      have hnb20 := NB207_208.out
      have hnc20 := NB208_207.out
      have hcz21_0 : wc.cell? ⟨gb207,0,none⟩ = some (.bool a0_0) := (blk_cell BK207.out 0).trans rfl
      have hcz21_1 : wc.cell? ⟨gb207,1,none⟩ = some (.string a0_1) := (blk_cell BK207.out 1).trans rfl
      have hcz21_2 : wc.cell? ⟨gb207,2,none⟩ = some (.int .i64 a0_2) := (blk_cell BK207.out 2).trans rfl
      have hfz21_0 := blk_frozen BK207.out 0
      have hfz21_1 := blk_frozen BK207.out 1
      have hfz21_2 := blk_frozen BK207.out 2
      have hcz22_0 : wc.cell? ⟨gb208,0,none⟩ = some (.bool a1_0) := (blk_cell BK208.out 0).trans rfl
      have hcz22_1 : wc.cell? ⟨gb208,1,none⟩ = some (.string a1_1) := (blk_cell BK208.out 1).trans rfl
      have hcz22_2 : wc.cell? ⟨gb208,2,none⟩ = some (.int .i64 a1_2) := (blk_cell BK208.out 2).trans rfl
      have hfz22_0 := blk_frozen BK208.out 0
      have hfz22_1 := blk_frozen BK208.out 1
      have hfz22_2 := blk_frozen BK208.out 2
      go_wp2
      go_ret
      exact ⟨by first | rfl | (simp [errW_none,errW_some] <;> rfl) | (simp [*,errW_none,errW_some] <;> rfl),by repeat (first | (with_reducible first | exact HB.out | apply below_alloc | apply pw_below_drewN | apply below_drew1 | refine below_set ?_ GE207.out | refine below_set ?_ GE208.out) | exact HB.out)⟩
   ·replace c12 := Bool.eq_false_iff.mpr c12
    subst c12
    have H1 : ((tabardref7_Point.f kj2 a0_0 a0_1 a0_2).bind fun t209 => ((tabardref7_Point.f kj2 a1_0 a1_1 a1_2).bind fun t210 => (if t209 = t210 then (tabardref7_size.l0 kj2 t209 0 a0_0 a0_1 a0_2 a1_0 a1_1 a1_2) else (if t209 < t210 then (some (-1)) else (some 1))))) = some r := by rw [if_neg (show ¬ (false = true) by decide)] at H;exact H
    clear H
    have H := H1
    clear H1
    replace H := Option.bind_eq_some_iff.mp H
    obtain ⟨t209,A230,H⟩ := H
    replace H : ((tabardref7_Point.f kj2 a1_0 a1_1 a1_2).bind fun t210 => (if t209 = t210 then (tabardref7_size.l0 kj2 t209 0 a0_0 a0_1 a0_2 a1_0 a1_1 a1_2) else (if t209 < t210 then (some (-1)) else (some 1)))) = some r := H
    have A23 := Aside0.mk A230
    clear A230
    replace H := Option.bind_eq_some_iff.mp H
    obtain ⟨t210,A240,H⟩ := H
    replace H : (if t209 = t210 then (tabardref7_size.l0 kj2 t209 0 a0_0 a0_1 a0_2 a1_0 a1_1 a1_2) else (if t209 < t210 then (some (-1)) else (some 1))) = some r := H
    have A24 := Aside0.mk A240
    clear A240
    by_cases c25 : t209 = t210
    ·rw [if_pos c25] at H
     have c25b0 : (t209 == t210) = true := beq_iff_eq.mpr c25
     have c25b1 : (t209 != t210) = false := bne_eq_false_iff_eq.mpr c25
     clear c25
     have H' := Aside0.mk H
     clear H
     have hnb26 := NB207_208.out
     have hnc26 := NB208_207.out
     have hcz27_0 : wc.cell? ⟨gb207,0,none⟩ = some (.bool a0_0) := (blk_cell BK207.out 0).trans rfl
     have hcz27_1 : wc.cell? ⟨gb207,1,none⟩ = some (.string a0_1) := (blk_cell BK207.out 1).trans rfl
     have hcz27_2 : wc.cell? ⟨gb207,2,none⟩ = some (.int .i64 a0_2) := (blk_cell BK207.out 2).trans rfl
     have hfz27_0 := blk_frozen BK207.out 0
     have hfz27_1 := blk_frozen BK207.out 1
     have hfz27_2 := blk_frozen BK207.out 2
     go_wp2_with (first | ((with_reducible refine gate_callee (f := 10) rfl ?_);refine goesL_ (some 29) rfl rfl Tryz.func10 (by kernel_rfl) rfl #[.agg #[.bool a0_0,.string a0_1,.int .i64 a0_2]] rfl (by (try simp only [List.map_toArray,List.map_cons,List.map_nil]);first | done | rfl | (simp only [List.length_drop,List.length_take];rfl)) ?_;(with_reducible refine (tabardref7_Point.calls kj2 a0_0 a0_1 a0_2 t209 _ A23.out).mono ?_);rintro e w28 ⟨rfl,hb⟩;refine ⟨_,rfl,?_⟩;have n0_ := Aside0.mk (blk_below (g := gb207) (o := .cells #[.bool a0_0,.string a0_1,.int .i64 a0_2] 23 (0,0)) (by (with_reducible repeat (first | refine blk_drewN ?_ _ | refine blk_drew ?_ | refine blk_alloc ?_ _));exact BK207.out) hb);have n1_ := Aside0.mk (blk_below (g := gb208) (o := .cells #[.bool a1_0,.string a1_1,.int .i64 a1_2] 23 (0,0)) (by (with_reducible repeat (first | refine blk_drewN ?_ _ | refine blk_drew ?_ | refine blk_alloc ?_ _));exact BK208.out) hb);have n2_ := Aside0.mk (below_step (by repeat (first | (with_reducible first | exact HB.out | apply below_alloc | apply pw_below_drewN | apply below_drew1 | refine below_set ?_ GE207.out | refine below_set ?_ GE208.out) | exact HB.out)) hb);clear BK207;clear BK208;clear HB;have BK207 := n0_;have BK208 := n1_;have HB := n2_;clear n0_ n1_ n2_;(try clear hb);(try clear hb2);(try clear hk);(try clear hi);have hcz29_0 : w28.cell? ⟨gb208,0,none⟩ = some (.bool a1_0) := (blk_cell BK208.out 0).trans rfl;have hcz29_1 : w28.cell? ⟨gb208,1,none⟩ = some (.string a1_1) := (blk_cell BK208.out 1).trans rfl;have hcz29_2 : w28.cell? ⟨gb208,2,none⟩ = some (.int .i64 a1_2) := (blk_cell BK208.out 2).trans rfl;have hfz29_0 := blk_frozen BK208.out 0;have hfz29_1 := blk_frozen BK208.out 1;have hfz29_2 := blk_frozen BK208.out 2) | ((with_reducible refine gate_callee (f := 10) rfl ?_);refine goesL_ (some 31) rfl rfl Tryz.func10 (by kernel_rfl) rfl #[.agg #[.bool a1_0,.string a1_1,.int .i64 a1_2]] rfl (by (try simp only [List.map_toArray,List.map_cons,List.map_nil]);first | done | rfl | (simp only [List.length_drop,List.length_take];rfl)) ?_;(with_reducible refine (tabardref7_Point.calls kj2 a1_0 a1_1 a1_2 t210 _ A24.out).mono ?_);rintro e w30 ⟨rfl,hb⟩;refine ⟨_,rfl,?_⟩;have n0_ := Aside0.mk (blk_below (g := gb207) (o := .cells #[.bool a0_0,.string a0_1,.int .i64 a0_2] 23 (0,0)) (by (with_reducible repeat (first | refine blk_drewN ?_ _ | refine blk_drew ?_ | refine blk_alloc ?_ _));exact BK207.out) hb);have n1_ := Aside0.mk (blk_below (g := gb208) (o := .cells #[.bool a1_0,.string a1_1,.int .i64 a1_2] 23 (0,0)) (by (with_reducible repeat (first | refine blk_drewN ?_ _ | refine blk_drew ?_ | refine blk_alloc ?_ _));exact BK208.out) hb);have n2_ := Aside0.mk (below_step (by repeat (first | (with_reducible first | exact HB.out | apply below_alloc | apply pw_below_drewN | apply below_drew1 | refine below_set ?_ GE207.out | refine below_set ?_ GE208.out) | exact HB.out)) hb);clear BK207;clear BK208;clear HB;have BK207 := n0_;have BK208 := n1_;have HB := n2_;clear n0_ n1_ n2_;(try clear hb);(try clear hb2);(try clear hk);(try clear hi)))
     go_loopg [7] kj2 (fun kq v7 w' => ∃ (x7_2 : Int),v7 = .int .i64 x7_2 ∧ Aside0 (tabardref7_size.l0 kq t209 x7_2 a0_0 a0_1 a0_2 a1_0 a1_1 a1_2 = some r) ∧ Aside0 (kq ≤ kj2) ∧ Aside0 (w'.heap[gb207]? = some (.cells #[.bool a0_0,.string a0_1,.int .i64 a0_2] 23 (0,0))) ∧ Aside0 (w'.heap[gb208]? = some (.cells #[.bool a1_0,.string a1_1,.int .i64 a1_2] 23 (0,0))) ∧ Aside0 (Below w.heap.size w w'))
     case atStart => exact ⟨(0),(by first | rfl | (simp;done) | (simp [*];done)),H',⟨Nat.le_refl _⟩,⟨by (with_reducible repeat (first | refine blk_drewN ?_ _ | refine blk_drew ?_ | refine blk_alloc ?_ _));exact BK207.out⟩,⟨by (with_reducible repeat (first | refine blk_drewN ?_ _ | refine blk_drew ?_ | refine blk_alloc ?_ _));exact BK208.out⟩,⟨by repeat (first | (with_reducible first | exact HB.out | apply below_alloc | apply pw_below_drewN | apply below_drew1 | refine below_set ?_ GE207.out | refine below_set ?_ GE208.out) | exact HB.out)⟩⟩
     case round =>
      clear H'
      try clear c1
      try clear c2
      try clear p2
      try clear c6
      try clear c6b0
      try clear c6b1
      try clear c7
      try clear c9
      try clear c10
      try clear c12
      try clear c13
      try clear c13b0
      try clear c13b1
      try clear c14
      try clear c16
      try clear c16b0
      try clear c16b1
      try clear c17
      try clear c20
      try clear c25
      try clear c25b0
      try clear c25b1
      try clear c26
      try clear hcz10_0
      try clear hcz10_1
      try clear hcz10_2
      try clear hcz11_0
      try clear hcz11_1
      try clear hcz11_2
      try clear hcz15_0
      try clear hcz15_1
      try clear hcz15_2
      try clear hcz18_0
      try clear hcz18_1
      try clear hcz18_2
      try clear hcz19_0
      try clear hcz19_1
      try clear hcz19_2
      try clear hcz21_0
      try clear hcz21_1
      try clear hcz21_2
      try clear hcz22_0
      try clear hcz22_1
      try clear hcz22_2
      try clear hcz27_0
      try clear hcz27_1
      try clear hcz27_2
      try clear hcz29_0
      try clear hcz29_1
      try clear hcz29_2
      try clear hcz8_0
      try clear hcz8_1
      try clear hcz8_2
      try clear hfz10_0
      try clear hfz10_1
      try clear hfz10_2
      try clear hfz11_0
      try clear hfz11_1
      try clear hfz11_2
      try clear hfz15_0
      try clear hfz15_1
      try clear hfz15_2
      try clear hfz18_0
      try clear hfz18_1
      try clear hfz18_2
      try clear hfz19_0
      try clear hfz19_1
      try clear hfz19_2
      try clear hfz21_0
      try clear hfz21_1
      try clear hfz21_2
      try clear hfz22_0
      try clear hfz22_1
      try clear hfz22_2
      try clear hfz27_0
      try clear hfz27_1
      try clear hfz27_2
      try clear hfz29_0
      try clear hfz29_1
      try clear hfz29_2
      try clear hfz8_0
      try clear hfz8_1
      try clear hfz8_2
      try clear p2
      obtain ⟨x7_2,rfl,HA,HK2,BK207,BK208,HB⟩ := hrel
      cases gk with
      | zero => exact absurd HA.out (by simp [tabardref7_size.l0])
      | succ k2 =>
       have H := HA.out
       clear HA
       simp only [tabardref7_size.l0] at H
       have HC31 := Aside0.mk H
       clear H
       go_upto_region 14 with (fail)
       go_cut [49] (fun v49 wc => ∃ (kq : Nat) (x49_30 : Bool),v49 = .bool x49_30 ∧ Aside0 (tabardref7_size.j2 kq t209 x7_2 x49_30 a0_0 a0_1 a0_2 a1_0 a1_1 a1_2 = some r) ∧ Aside0 (kq ≤ k2) ∧ Aside0 (wc.heap[gb207]? = some (.cells #[.bool a0_0,.string a0_1,.int .i64 a0_2] 23 (0,0))) ∧ Aside0 (wc.heap[gb208]? = some (.cells #[.bool a1_0,.string a1_1,.int .i64 a1_2] 23 (0,0))) ∧ Aside0 (Below w.heap.size w wc))
       case first =>
        have H := HC31.out
        clear HC31
        by_cases c32 : x7_2 < (a0_1.size : Int)
        ·rw [if_pos c32] at H
         have c32b0 : decide (x7_2 < (a0_1.size : Int)) = true := decide_eq_true c32
         clear c32
         (first | rw [c32b0] | (simp only [i64_w,i32_w];rw [c32b0]) | skip)
         have H' := Aside0.mk H
         clear H
         have hnb33 := NB207_208.out
         have hnc33 := NB208_207.out
         have hcz34_0 : wr.cell? ⟨gb207,0,none⟩ = some (.bool a0_0) := (blk_cell BK207.out 0).trans rfl
         have hcz34_1 : wr.cell? ⟨gb207,1,none⟩ = some (.string a0_1) := (blk_cell BK207.out 1).trans rfl
         have hcz34_2 : wr.cell? ⟨gb207,2,none⟩ = some (.int .i64 a0_2) := (blk_cell BK207.out 2).trans rfl
         have hfz34_0 := blk_frozen BK207.out 0
         have hfz34_1 := blk_frozen BK207.out 1
         have hfz34_2 := blk_frozen BK207.out 2
         go_wp2
         go_meet
         case rel => exact ⟨_,(true),(by first | rfl | (simp;done) | (simp [*];done)),H',⟨by have := HJ2.out;have := HK2.out;first | omega | exact Nat.le_refl _⟩,⟨by (with_reducible repeat (first | refine blk_drewN ?_ _ | refine blk_drew ?_ | refine blk_alloc ?_ _));exact BK207.out⟩,⟨by (with_reducible repeat (first | refine blk_drewN ?_ _ | refine blk_drew ?_ | refine blk_alloc ?_ _));exact BK208.out⟩,⟨by repeat (first | (with_reducible first | exact HB.out | apply below_alloc | apply pw_below_drewN | apply below_drew1 | refine below_set ?_ GE207.out | refine below_set ?_ GE208.out) | exact HB.out)⟩⟩
        ·rw [if_neg c32] at H
         have c32b0 : decide (x7_2 < (a0_1.size : Int)) = false := decide_eq_false c32
         clear c32
         (first | rw [c32b0] | (simp only [i64_w,i32_w];rw [c32b0]) | skip)
         have H' := Aside0.mk H
         clear H
         have hnb35 := NB207_208.out
         have hnc35 := NB208_207.out
         have hcz36_0 : wr.cell? ⟨gb207,0,none⟩ = some (.bool a0_0) := (blk_cell BK207.out 0).trans rfl
         have hcz36_1 : wr.cell? ⟨gb207,1,none⟩ = some (.string a0_1) := (blk_cell BK207.out 1).trans rfl
         have hcz36_2 : wr.cell? ⟨gb207,2,none⟩ = some (.int .i64 a0_2) := (blk_cell BK207.out 2).trans rfl
         have hfz36_0 := blk_frozen BK207.out 0
         have hfz36_1 := blk_frozen BK207.out 1
         have hfz36_2 := blk_frozen BK207.out 2
         have hcz37_0 : wr.cell? ⟨gb208,0,none⟩ = some (.bool a1_0) := (blk_cell BK208.out 0).trans rfl
         have hcz37_1 : wr.cell? ⟨gb208,1,none⟩ = some (.string a1_1) := (blk_cell BK208.out 1).trans rfl
         have hcz37_2 : wr.cell? ⟨gb208,2,none⟩ = some (.int .i64 a1_2) := (blk_cell BK208.out 2).trans rfl
         have hfz37_0 := blk_frozen BK208.out 0
         have hfz37_1 := blk_frozen BK208.out 1
         have hfz37_2 := blk_frozen BK208.out 2
         go_wp2
         go_meet
         case rel => exact ⟨_,(decide (x7_2 < (a1_1.size : Int))),(by first | rfl | (simp;done) | (simp [*];done)),H',⟨by have := HJ2.out;have := HK2.out;first | omega | exact Nat.le_refl _⟩,⟨by (with_reducible repeat (first | refine blk_drewN ?_ _ | refine blk_drew ?_ | refine blk_alloc ?_ _));exact BK207.out⟩,⟨by (with_reducible repeat (first | refine blk_drewN ?_ _ | refine blk_drew ?_ | refine blk_alloc ?_ _));exact BK208.out⟩,⟨by repeat (first | (with_reducible first | exact HB.out | apply below_alloc | apply pw_below_drewN | apply below_drew1 | refine below_set ?_ GE207.out | refine below_set ?_ GE208.out) | exact HB.out)⟩⟩
       case rest =>
        clear HC31
        try clear c1
        try clear c2
        try clear p2
        try clear c3
        try clear c6
        try clear c6b0
        try clear c6b1
        try clear c7
        try clear c9
        try clear c10
        try clear c12
        try clear c13
        try clear c13b0
        try clear c13b1
        try clear c14
        try clear c16
        try clear c16b0
        try clear c16b1
        try clear c17
        try clear c20
        try clear c25
        try clear c25b0
        try clear c25b1
        try clear c26
        try clear c32
        try clear c32b0
        try clear c33
        try clear c35
        try clear hcz10_0
        try clear hcz10_1
        try clear hcz10_2
        try clear hcz11_0
        try clear hcz11_1
        try clear hcz11_2
        try clear hcz15_0
        try clear hcz15_1
        try clear hcz15_2
        try clear hcz18_0
        try clear hcz18_1
        try clear hcz18_2
        try clear hcz19_0
        try clear hcz19_1
        try clear hcz19_2
        try clear hcz21_0
        try clear hcz21_1
        try clear hcz21_2
        try clear hcz22_0
        try clear hcz22_1
        try clear hcz22_2
        try clear hcz27_0
        try clear hcz27_1
        try clear hcz27_2
        try clear hcz29_0
        try clear hcz29_1
        try clear hcz29_2
        try clear hcz34_0
        try clear hcz34_1
        try clear hcz34_2
        try clear hcz36_0
        try clear hcz36_1
        try clear hcz36_2
        try clear hcz37_0
        try clear hcz37_1
        try clear hcz37_2
        try clear hcz8_0
        try clear hcz8_1
        try clear hcz8_2
        try clear hfz10_0
        try clear hfz10_1
        try clear hfz10_2
        try clear hfz11_0
        try clear hfz11_1
        try clear hfz11_2
        try clear hfz15_0
        try clear hfz15_1
        try clear hfz15_2
        try clear hfz18_0
        try clear hfz18_1
        try clear hfz18_2
        try clear hfz19_0
        try clear hfz19_1
        try clear hfz19_2
        try clear hfz21_0
        try clear hfz21_1
        try clear hfz21_2
        try clear hfz22_0
        try clear hfz22_1
        try clear hfz22_2
        try clear hfz27_0
        try clear hfz27_1
        try clear hfz27_2
        try clear hfz29_0
        try clear hfz29_1
        try clear hfz29_2
        try clear hfz34_0
        try clear hfz34_1
        try clear hfz34_2
        try clear hfz36_0
        try clear hfz36_1
        try clear hfz36_2
        try clear hfz37_0
        try clear hfz37_1
        try clear hfz37_2
        try clear hfz8_0
        try clear hfz8_1
        try clear hfz8_2
        try clear p2
        obtain ⟨kq,x49_30,rfl,HA,HJ30,BK207,BK208,HB⟩ := hcut
        cases kq with
        | zero => exact absurd HA.out (by simp [tabardref7_size.j2])
        | succ kj30 =>
         have H := HA.out
         clear HA
         simp only [tabardref7_size.j2] at H
         by_cases c38 : x49_30 = true
         ·subst c38
          have H1 : ((tabardref7_at.f a0_0 a0_1 a0_2 (wrap64 ((wrap64 (t209 - 1)) - x7_2))).bind fun t211 => ((tabardref7_at.f a1_0 a1_1 a1_2 (wrap64 ((wrap64 (t209 - 1)) - x7_2))).bind fun t212 => (if t211 < t212 then (some (-1)) else (if t211 > t212 then (some 1) else (tabardref7_size.l0 kj30 t209 (wrap64 (x7_2 + 1)) a0_0 a0_1 a0_2 a1_0 a1_1 a1_2))))) = some r := by rw [if_pos rfl] at H;exact H
          clear H
          have H := H1
          clear H1
          replace H := Option.bind_eq_some_iff.mp H
          obtain ⟨t211,A390,H⟩ := H
          replace H : ((tabardref7_at.f a1_0 a1_1 a1_2 (wrap64 ((wrap64 (t209 - 1)) - x7_2))).bind fun t212 => (if t211 < t212 then (some (-1)) else (if t211 > t212 then (some 1) else (tabardref7_size.l0 kj30 t209 (wrap64 (x7_2 + 1)) a0_0 a0_1 a0_2 a1_0 a1_1 a1_2)))) = some r := H
          have A39 := Aside0.mk A390
          clear A390
          replace H := Option.bind_eq_some_iff.mp H
          obtain ⟨t212,A400,H⟩ := H
          replace H : (if t211 < t212 then (some (-1)) else (if t211 > t212 then (some 1) else (tabardref7_size.l0 kj30 t209 (wrap64 (x7_2 + 1)) a0_0 a0_1 a0_2 a1_0 a1_1 a1_2))) = some r := H
          have A40 := Aside0.mk A400
          clear A400
          by_cases c41 : t211 < t212
          ·rw [if_pos c41] at H
           have c41b0 : decide (t211 < t212) = true := decide_eq_true c41
           clear c41
           obtain rfl := Option.some.inj H
           have hnb42 := NB207_208.out
           have hnc42 := NB208_207.out
           have hcz43_0 : wc.cell? ⟨gb207,0,none⟩ = some (.bool a0_0) := (blk_cell BK207.out 0).trans rfl
           have hcz43_1 : wc.cell? ⟨gb207,1,none⟩ = some (.string a0_1) := (blk_cell BK207.out 1).trans rfl
           have hcz43_2 : wc.cell? ⟨gb207,2,none⟩ = some (.int .i64 a0_2) := (blk_cell BK207.out 2).trans rfl
           have hfz43_0 := blk_frozen BK207.out 0
           have hfz43_1 := blk_frozen BK207.out 1
           have hfz43_2 := blk_frozen BK207.out 2
           go_wp2_with (first | ((with_reducible refine gate_callee (f := 44) rfl ?_);refine goesL_ (some 57) rfl rfl Tryz.func44 (by kernel_rfl) rfl #[.agg #[.bool a0_0,.string a0_1,.int .i64 a0_2],.int .i64 (wrap64 ((wrap64 (t209 - 1)) - x7_2))] rfl (by (try simp only [List.map_toArray,List.map_cons,List.map_nil]);first | done | rfl | (simp only [List.length_drop,List.length_take];rfl)) ?_;(with_reducible refine (tabardref7_at.calls a0_0 a0_1 a0_2 (wrap64 ((wrap64 (t209 - 1)) - x7_2)) t211 _ A39.out).mono ?_);rintro e w44 ⟨rfl,hb⟩;refine ⟨_,rfl,?_⟩;have n0_ := Aside0.mk (blk_below (g := gb207) (o := .cells #[.bool a0_0,.string a0_1,.int .i64 a0_2] 23 (0,0)) (by (with_reducible repeat (first | refine blk_drewN ?_ _ | refine blk_drew ?_ | refine blk_alloc ?_ _));exact BK207.out) hb);have n1_ := Aside0.mk (blk_below (g := gb208) (o := .cells #[.bool a1_0,.string a1_1,.int .i64 a1_2] 23 (0,0)) (by (with_reducible repeat (first | refine blk_drewN ?_ _ | refine blk_drew ?_ | refine blk_alloc ?_ _));exact BK208.out) hb);have n2_ := Aside0.mk (below_step (by repeat (first | (with_reducible first | exact HB.out | apply below_alloc | apply pw_below_drewN | apply below_drew1 | refine below_set ?_ GE207.out | refine below_set ?_ GE208.out) | exact HB.out)) hb);clear BK207;clear BK208;clear HB;have BK207 := n0_;have BK208 := n1_;have HB := n2_;clear n0_ n1_ n2_;(try clear hb);(try clear hb2);(try clear hk);(try clear hi);have hcz45_0 : w44.cell? ⟨gb208,0,none⟩ = some (.bool a1_0) := (blk_cell BK208.out 0).trans rfl;have hcz45_1 : w44.cell? ⟨gb208,1,none⟩ = some (.string a1_1) := (blk_cell BK208.out 1).trans rfl;have hcz45_2 : w44.cell? ⟨gb208,2,none⟩ = some (.int .i64 a1_2) := (blk_cell BK208.out 2).trans rfl;have hfz45_0 := blk_frozen BK208.out 0;have hfz45_1 := blk_frozen BK208.out 1;have hfz45_2 := blk_frozen BK208.out 2) | ((with_reducible refine gate_callee (f := 44) rfl ?_);refine goesL_ (some 63) rfl rfl Tryz.func44 (by kernel_rfl) rfl #[.agg #[.bool a1_0,.string a1_1,.int .i64 a1_2],.int .i64 (wrap64 ((wrap64 (t209 - 1)) - x7_2))] rfl (by (try simp only [List.map_toArray,List.map_cons,List.map_nil]);first | done | rfl | (simp only [List.length_drop,List.length_take];rfl)) ?_;(with_reducible refine (tabardref7_at.calls a1_0 a1_1 a1_2 (wrap64 ((wrap64 (t209 - 1)) - x7_2)) t212 _ A40.out).mono ?_);rintro e w46 ⟨rfl,hb⟩;refine ⟨_,rfl,?_⟩;have n0_ := Aside0.mk (blk_below (g := gb207) (o := .cells #[.bool a0_0,.string a0_1,.int .i64 a0_2] 23 (0,0)) (by (with_reducible repeat (first | refine blk_drewN ?_ _ | refine blk_drew ?_ | refine blk_alloc ?_ _));exact BK207.out) hb);have n1_ := Aside0.mk (blk_below (g := gb208) (o := .cells #[.bool a1_0,.string a1_1,.int .i64 a1_2] 23 (0,0)) (by (with_reducible repeat (first | refine blk_drewN ?_ _ | refine blk_drew ?_ | refine blk_alloc ?_ _));exact BK208.out) hb);have n2_ := Aside0.mk (below_step (by repeat (first | (with_reducible first | exact HB.out | apply below_alloc | apply pw_below_drewN | apply below_drew1 | refine below_set ?_ GE207.out | refine below_set ?_ GE208.out) | exact HB.out)) hb);clear BK207;clear BK208;clear HB;have BK207 := n0_;have BK208 := n1_;have HB := n2_;clear n0_ n1_ n2_;(try clear hb);(try clear hb2);(try clear hk);(try clear hi)))
           go_ret
           exact ⟨by first | rfl | (simp [errW_none,errW_some] <;> rfl) | (simp [*,errW_none,errW_some] <;> rfl),by repeat (first | (with_reducible first | exact HB.out | apply below_alloc | apply pw_below_drewN | apply below_drew1 | refine below_set ?_ GE207.out | refine below_set ?_ GE208.out) | exact HB.out)⟩
          ·rw [if_neg c41] at H
           have c41b0 : decide (t211 < t212) = false := decide_eq_false c41
           clear c41
           by_cases c47 : t211 > t212
           ·rw [if_pos c47] at H
            have c47b0 : decide (t212 < t211) = true := decide_eq_true c47
            clear c47
            obtain rfl := Option.some.inj H
            have hnb48 := NB207_208.out
            have hnc48 := NB208_207.out
            have hcz49_0 : wc.cell? ⟨gb207,0,none⟩ = some (.bool a0_0) := (blk_cell BK207.out 0).trans rfl
            have hcz49_1 : wc.cell? ⟨gb207,1,none⟩ = some (.string a0_1) := (blk_cell BK207.out 1).trans rfl
            have hcz49_2 : wc.cell? ⟨gb207,2,none⟩ = some (.int .i64 a0_2) := (blk_cell BK207.out 2).trans rfl
            have hfz49_0 := blk_frozen BK207.out 0
            have hfz49_1 := blk_frozen BK207.out 1
            have hfz49_2 := blk_frozen BK207.out 2
            go_wp2_with (first | ((with_reducible refine gate_callee (f := 44) rfl ?_);refine goesL_ (some 57) rfl rfl Tryz.func44 (by kernel_rfl) rfl #[.agg #[.bool a0_0,.string a0_1,.int .i64 a0_2],.int .i64 (wrap64 ((wrap64 (t209 - 1)) - x7_2))] rfl (by (try simp only [List.map_toArray,List.map_cons,List.map_nil]);first | done | rfl | (simp only [List.length_drop,List.length_take];rfl)) ?_;(with_reducible refine (tabardref7_at.calls a0_0 a0_1 a0_2 (wrap64 ((wrap64 (t209 - 1)) - x7_2)) t211 _ A39.out).mono ?_);rintro e w50 ⟨rfl,hb⟩;refine ⟨_,rfl,?_⟩;have n0_ := Aside0.mk (blk_below (g := gb207) (o := .cells #[.bool a0_0,.string a0_1,.int .i64 a0_2] 23 (0,0)) (by (with_reducible repeat (first | refine blk_drewN ?_ _ | refine blk_drew ?_ | refine blk_alloc ?_ _));exact BK207.out) hb);have n1_ := Aside0.mk (blk_below (g := gb208) (o := .cells #[.bool a1_0,.string a1_1,.int .i64 a1_2] 23 (0,0)) (by (with_reducible repeat (first | refine blk_drewN ?_ _ | refine blk_drew ?_ | refine blk_alloc ?_ _));exact BK208.out) hb);have n2_ := Aside0.mk (below_step (by repeat (first | (with_reducible first | exact HB.out | apply below_alloc | apply pw_below_drewN | apply below_drew1 | refine below_set ?_ GE207.out | refine below_set ?_ GE208.out) | exact HB.out)) hb);clear BK207;clear BK208;clear HB;have BK207 := n0_;have BK208 := n1_;have HB := n2_;clear n0_ n1_ n2_;(try clear hb);(try clear hb2);(try clear hk);(try clear hi);have hcz51_0 : w50.cell? ⟨gb208,0,none⟩ = some (.bool a1_0) := (blk_cell BK208.out 0).trans rfl;have hcz51_1 : w50.cell? ⟨gb208,1,none⟩ = some (.string a1_1) := (blk_cell BK208.out 1).trans rfl;have hcz51_2 : w50.cell? ⟨gb208,2,none⟩ = some (.int .i64 a1_2) := (blk_cell BK208.out 2).trans rfl;have hfz51_0 := blk_frozen BK208.out 0;have hfz51_1 := blk_frozen BK208.out 1;have hfz51_2 := blk_frozen BK208.out 2) | ((with_reducible refine gate_callee (f := 44) rfl ?_);refine goesL_ (some 63) rfl rfl Tryz.func44 (by kernel_rfl) rfl #[.agg #[.bool a1_0,.string a1_1,.int .i64 a1_2],.int .i64 (wrap64 ((wrap64 (t209 - 1)) - x7_2))] rfl (by (try simp only [List.map_toArray,List.map_cons,List.map_nil]);first | done | rfl | (simp only [List.length_drop,List.length_take];rfl)) ?_;(with_reducible refine (tabardref7_at.calls a1_0 a1_1 a1_2 (wrap64 ((wrap64 (t209 - 1)) - x7_2)) t212 _ A40.out).mono ?_);rintro e w52 ⟨rfl,hb⟩;refine ⟨_,rfl,?_⟩;have n0_ := Aside0.mk (blk_below (g := gb207) (o := .cells #[.bool a0_0,.string a0_1,.int .i64 a0_2] 23 (0,0)) (by (with_reducible repeat (first | refine blk_drewN ?_ _ | refine blk_drew ?_ | refine blk_alloc ?_ _));exact BK207.out) hb);have n1_ := Aside0.mk (blk_below (g := gb208) (o := .cells #[.bool a1_0,.string a1_1,.int .i64 a1_2] 23 (0,0)) (by (with_reducible repeat (first | refine blk_drewN ?_ _ | refine blk_drew ?_ | refine blk_alloc ?_ _));exact BK208.out) hb);have n2_ := Aside0.mk (below_step (by repeat (first | (with_reducible first | exact HB.out | apply below_alloc | apply pw_below_drewN | apply below_drew1 | refine below_set ?_ GE207.out | refine below_set ?_ GE208.out) | exact HB.out)) hb);clear BK207;clear BK208;clear HB;have BK207 := n0_;have BK208 := n1_;have HB := n2_;clear n0_ n1_ n2_;(try clear hb);(try clear hb2);(try clear hk);(try clear hi)))
            go_ret
            exact ⟨by first | rfl | (simp [errW_none,errW_some] <;> rfl) | (simp [*,errW_none,errW_some] <;> rfl),by repeat (first | (with_reducible first | exact HB.out | apply below_alloc | apply pw_below_drewN | apply below_drew1 | refine below_set ?_ GE207.out | refine below_set ?_ GE208.out) | exact HB.out)⟩
           ·rw [if_neg c47] at H
            have c47b0 : decide (t212 < t211) = false := decide_eq_false c47
            clear c47
            have H' := Aside0.mk H
            clear H
            have hnb53 := NB207_208.out
            have hnc53 := NB208_207.out
            have hcz54_0 : wc.cell? ⟨gb207,0,none⟩ = some (.bool a0_0) := (blk_cell BK207.out 0).trans rfl
            have hcz54_1 : wc.cell? ⟨gb207,1,none⟩ = some (.string a0_1) := (blk_cell BK207.out 1).trans rfl
            have hcz54_2 : wc.cell? ⟨gb207,2,none⟩ = some (.int .i64 a0_2) := (blk_cell BK207.out 2).trans rfl
            have hfz54_0 := blk_frozen BK207.out 0
            have hfz54_1 := blk_frozen BK207.out 1
            have hfz54_2 := blk_frozen BK207.out 2
            go_wp2_with (first | ((with_reducible refine gate_callee (f := 44) rfl ?_);refine goesL_ (some 57) rfl rfl Tryz.func44 (by kernel_rfl) rfl #[.agg #[.bool a0_0,.string a0_1,.int .i64 a0_2],.int .i64 (wrap64 ((wrap64 (t209 - 1)) - x7_2))] rfl (by (try simp only [List.map_toArray,List.map_cons,List.map_nil]);first | done | rfl | (simp only [List.length_drop,List.length_take];rfl)) ?_;(with_reducible refine (tabardref7_at.calls a0_0 a0_1 a0_2 (wrap64 ((wrap64 (t209 - 1)) - x7_2)) t211 _ A39.out).mono ?_);rintro e w55 ⟨rfl,hb⟩;refine ⟨_,rfl,?_⟩;have n0_ := Aside0.mk (blk_below (g := gb207) (o := .cells #[.bool a0_0,.string a0_1,.int .i64 a0_2] 23 (0,0)) (by (with_reducible repeat (first | refine blk_drewN ?_ _ | refine blk_drew ?_ | refine blk_alloc ?_ _));exact BK207.out) hb);have n1_ := Aside0.mk (blk_below (g := gb208) (o := .cells #[.bool a1_0,.string a1_1,.int .i64 a1_2] 23 (0,0)) (by (with_reducible repeat (first | refine blk_drewN ?_ _ | refine blk_drew ?_ | refine blk_alloc ?_ _));exact BK208.out) hb);have n2_ := Aside0.mk (below_step (by repeat (first | (with_reducible first | exact HB.out | apply below_alloc | apply pw_below_drewN | apply below_drew1 | refine below_set ?_ GE207.out | refine below_set ?_ GE208.out) | exact HB.out)) hb);clear BK207;clear BK208;clear HB;have BK207 := n0_;have BK208 := n1_;have HB := n2_;clear n0_ n1_ n2_;(try clear hb);(try clear hb2);(try clear hk);(try clear hi);have hcz56_0 : w55.cell? ⟨gb208,0,none⟩ = some (.bool a1_0) := (blk_cell BK208.out 0).trans rfl;have hcz56_1 : w55.cell? ⟨gb208,1,none⟩ = some (.string a1_1) := (blk_cell BK208.out 1).trans rfl;have hcz56_2 : w55.cell? ⟨gb208,2,none⟩ = some (.int .i64 a1_2) := (blk_cell BK208.out 2).trans rfl;have hfz56_0 := blk_frozen BK208.out 0;have hfz56_1 := blk_frozen BK208.out 1;have hfz56_2 := blk_frozen BK208.out 2) | ((with_reducible refine gate_callee (f := 44) rfl ?_);refine goesL_ (some 63) rfl rfl Tryz.func44 (by kernel_rfl) rfl #[.agg #[.bool a1_0,.string a1_1,.int .i64 a1_2],.int .i64 (wrap64 ((wrap64 (t209 - 1)) - x7_2))] rfl (by (try simp only [List.map_toArray,List.map_cons,List.map_nil]);first | done | rfl | (simp only [List.length_drop,List.length_take];rfl)) ?_;(with_reducible refine (tabardref7_at.calls a1_0 a1_1 a1_2 (wrap64 ((wrap64 (t209 - 1)) - x7_2)) t212 _ A40.out).mono ?_);rintro e w57 ⟨rfl,hb⟩;refine ⟨_,rfl,?_⟩;have n0_ := Aside0.mk (blk_below (g := gb207) (o := .cells #[.bool a0_0,.string a0_1,.int .i64 a0_2] 23 (0,0)) (by (with_reducible repeat (first | refine blk_drewN ?_ _ | refine blk_drew ?_ | refine blk_alloc ?_ _));exact BK207.out) hb);have n1_ := Aside0.mk (blk_below (g := gb208) (o := .cells #[.bool a1_0,.string a1_1,.int .i64 a1_2] 23 (0,0)) (by (with_reducible repeat (first | refine blk_drewN ?_ _ | refine blk_drew ?_ | refine blk_alloc ?_ _));exact BK208.out) hb);have n2_ := Aside0.mk (below_step (by repeat (first | (with_reducible first | exact HB.out | apply below_alloc | apply pw_below_drewN | apply below_drew1 | refine below_set ?_ GE207.out | refine below_set ?_ GE208.out) | exact HB.out)) hb);clear BK207;clear BK208;clear HB;have BK207 := n0_;have BK208 := n1_;have HB := n2_;clear n0_ n1_ n2_;(try clear hb);(try clear hb2);(try clear hk);(try clear hi)))
            go_roundg kj30
            case measure => have := HJ2.out;have := HK2.out;have := HJ30.out;omega
            case rel => exact ⟨(wrap64 (x7_2 + 1)),(by first | rfl | (simp;done) | (simp [*];done)),H',⟨by have := HJ2.out;have := HK2.out;have := HJ30.out;omega⟩,⟨by (with_reducible repeat (first | refine blk_drewN ?_ _ | refine blk_drew ?_ | refine blk_alloc ?_ _));exact BK207.out⟩,⟨by (with_reducible repeat (first | refine blk_drewN ?_ _ | refine blk_drew ?_ | refine blk_alloc ?_ _));exact BK208.out⟩,⟨by repeat (first | (with_reducible first | exact HB.out | apply below_alloc | apply pw_below_drewN | apply below_drew1 | refine below_set ?_ GE207.out | refine below_set ?_ GE208.out) | exact HB.out)⟩⟩
         ·replace c38 := Bool.eq_false_iff.mpr c38
          subst c38
          have H1 : (some 0) = some r := by rw [if_neg (show ¬ (false = true) by decide)] at H;exact H
          clear H
          have H := H1
          clear H1
          obtain rfl := Option.some.inj H
          go_wp2
          go_ret
          exact ⟨by first | rfl | (simp [errW_none,errW_some] <;> rfl) | (simp [*,errW_none,errW_some] <;> rfl),by repeat (first | (with_reducible first | exact HB.out | apply below_alloc | apply pw_below_drewN | apply below_drew1 | refine below_set ?_ GE207.out | refine below_set ?_ GE208.out) | exact HB.out)⟩
    ·rw [if_neg c25] at H
     have c25b0 : (t209 == t210) = false := beq_eq_false_iff_ne.mpr c25
     have c25b1 : (t209 != t210) = true := bne_iff_ne.mpr c25
     by_cases c58 : t209 < t210
     ·rw [if_pos c58] at H
      have c58b0 : decide (t209 < t210) = true := decide_eq_true c58
      clear c58
      obtain rfl := Option.some.inj H
      have hnb59 := NB207_208.out
      have hnc59 := NB208_207.out
      have hcz60_0 : wc.cell? ⟨gb207,0,none⟩ = some (.bool a0_0) := (blk_cell BK207.out 0).trans rfl
      have hcz60_1 : wc.cell? ⟨gb207,1,none⟩ = some (.string a0_1) := (blk_cell BK207.out 1).trans rfl
      have hcz60_2 : wc.cell? ⟨gb207,2,none⟩ = some (.int .i64 a0_2) := (blk_cell BK207.out 2).trans rfl
      have hfz60_0 := blk_frozen BK207.out 0
      have hfz60_1 := blk_frozen BK207.out 1
      have hfz60_2 := blk_frozen BK207.out 2
      go_wp2_with (first | ((with_reducible refine gate_callee (f := 10) rfl ?_);refine goesL_ (some 29) rfl rfl Tryz.func10 (by kernel_rfl) rfl #[.agg #[.bool a0_0,.string a0_1,.int .i64 a0_2]] rfl (by (try simp only [List.map_toArray,List.map_cons,List.map_nil]);first | done | rfl | (simp only [List.length_drop,List.length_take];rfl)) ?_;(with_reducible refine (tabardref7_Point.calls kj2 a0_0 a0_1 a0_2 t209 _ A23.out).mono ?_);rintro e w61 ⟨rfl,hb⟩;refine ⟨_,rfl,?_⟩;have n0_ := Aside0.mk (blk_below (g := gb207) (o := .cells #[.bool a0_0,.string a0_1,.int .i64 a0_2] 23 (0,0)) (by (with_reducible repeat (first | refine blk_drewN ?_ _ | refine blk_drew ?_ | refine blk_alloc ?_ _));exact BK207.out) hb);have n1_ := Aside0.mk (blk_below (g := gb208) (o := .cells #[.bool a1_0,.string a1_1,.int .i64 a1_2] 23 (0,0)) (by (with_reducible repeat (first | refine blk_drewN ?_ _ | refine blk_drew ?_ | refine blk_alloc ?_ _));exact BK208.out) hb);have n2_ := Aside0.mk (below_step (by repeat (first | (with_reducible first | exact HB.out | apply below_alloc | apply pw_below_drewN | apply below_drew1 | refine below_set ?_ GE207.out | refine below_set ?_ GE208.out) | exact HB.out)) hb);clear BK207;clear BK208;clear HB;have BK207 := n0_;have BK208 := n1_;have HB := n2_;clear n0_ n1_ n2_;(try clear hb);(try clear hb2);(try clear hk);(try clear hi);have hcz62_0 : w61.cell? ⟨gb208,0,none⟩ = some (.bool a1_0) := (blk_cell BK208.out 0).trans rfl;have hcz62_1 : w61.cell? ⟨gb208,1,none⟩ = some (.string a1_1) := (blk_cell BK208.out 1).trans rfl;have hcz62_2 : w61.cell? ⟨gb208,2,none⟩ = some (.int .i64 a1_2) := (blk_cell BK208.out 2).trans rfl;have hfz62_0 := blk_frozen BK208.out 0;have hfz62_1 := blk_frozen BK208.out 1;have hfz62_2 := blk_frozen BK208.out 2) | ((with_reducible refine gate_callee (f := 10) rfl ?_);refine goesL_ (some 31) rfl rfl Tryz.func10 (by kernel_rfl) rfl #[.agg #[.bool a1_0,.string a1_1,.int .i64 a1_2]] rfl (by (try simp only [List.map_toArray,List.map_cons,List.map_nil]);first | done | rfl | (simp only [List.length_drop,List.length_take];rfl)) ?_;(with_reducible refine (tabardref7_Point.calls kj2 a1_0 a1_1 a1_2 t210 _ A24.out).mono ?_);rintro e w63 ⟨rfl,hb⟩;refine ⟨_,rfl,?_⟩;have n0_ := Aside0.mk (blk_below (g := gb207) (o := .cells #[.bool a0_0,.string a0_1,.int .i64 a0_2] 23 (0,0)) (by (with_reducible repeat (first | refine blk_drewN ?_ _ | refine blk_drew ?_ | refine blk_alloc ?_ _));exact BK207.out) hb);have n1_ := Aside0.mk (blk_below (g := gb208) (o := .cells #[.bool a1_0,.string a1_1,.int .i64 a1_2] 23 (0,0)) (by (with_reducible repeat (first | refine blk_drewN ?_ _ | refine blk_drew ?_ | refine blk_alloc ?_ _));exact BK208.out) hb);have n2_ := Aside0.mk (below_step (by repeat (first | (with_reducible first | exact HB.out | apply below_alloc | apply pw_below_drewN | apply below_drew1 | refine below_set ?_ GE207.out | refine below_set ?_ GE208.out) | exact HB.out)) hb);clear BK207;clear BK208;clear HB;have BK207 := n0_;have BK208 := n1_;have HB := n2_;clear n0_ n1_ n2_;(try clear hb);(try clear hb2);(try clear hk);(try clear hi)))
      go_ret
      exact ⟨by first | rfl | (simp [errW_none,errW_some] <;> rfl) | (simp [*,errW_none,errW_some] <;> rfl),by repeat (first | (with_reducible first | exact HB.out | apply below_alloc | apply pw_below_drewN | apply below_drew1 | refine below_set ?_ GE207.out | refine below_set ?_ GE208.out) | exact HB.out)⟩
     ·rw [if_neg c58] at H
      have c58b0 : decide (t209 < t210) = false := decide_eq_false c58
      clear c58
      obtain rfl := Option.some.inj H
      have hnb64 := NB207_208.out
      have hnc64 := NB208_207.out
      have hcz65_0 : wc.cell? ⟨gb207,0,none⟩ = some (.bool a0_0) := (blk_cell BK207.out 0).trans rfl
      have hcz65_1 : wc.cell? ⟨gb207,1,none⟩ = some (.string a0_1) := (blk_cell BK207.out 1).trans rfl
      have hcz65_2 : wc.cell? ⟨gb207,2,none⟩ = some (.int .i64 a0_2) := (blk_cell BK207.out 2).trans rfl
      have hfz65_0 := blk_frozen BK207.out 0
      have hfz65_1 := blk_frozen BK207.out 1
      have hfz65_2 := blk_frozen BK207.out 2
      go_wp2_with (first | ((with_reducible refine gate_callee (f := 10) rfl ?_);refine goesL_ (some 29) rfl rfl Tryz.func10 (by kernel_rfl) rfl #[.agg #[.bool a0_0,.string a0_1,.int .i64 a0_2]] rfl (by (try simp only [List.map_toArray,List.map_cons,List.map_nil]);first | done | rfl | (simp only [List.length_drop,List.length_take];rfl)) ?_;(with_reducible refine (tabardref7_Point.calls kj2 a0_0 a0_1 a0_2 t209 _ A23.out).mono ?_);rintro e w66 ⟨rfl,hb⟩;refine ⟨_,rfl,?_⟩;have n0_ := Aside0.mk (blk_below (g := gb207) (o := .cells #[.bool a0_0,.string a0_1,.int .i64 a0_2] 23 (0,0)) (by (with_reducible repeat (first | refine blk_drewN ?_ _ | refine blk_drew ?_ | refine blk_alloc ?_ _));exact BK207.out) hb);have n1_ := Aside0.mk (blk_below (g := gb208) (o := .cells #[.bool a1_0,.string a1_1,.int .i64 a1_2] 23 (0,0)) (by (with_reducible repeat (first | refine blk_drewN ?_ _ | refine blk_drew ?_ | refine blk_alloc ?_ _));exact BK208.out) hb);have n2_ := Aside0.mk (below_step (by repeat (first | (with_reducible first | exact HB.out | apply below_alloc | apply pw_below_drewN | apply below_drew1 | refine below_set ?_ GE207.out | refine below_set ?_ GE208.out) | exact HB.out)) hb);clear BK207;clear BK208;clear HB;have BK207 := n0_;have BK208 := n1_;have HB := n2_;clear n0_ n1_ n2_;(try clear hb);(try clear hb2);(try clear hk);(try clear hi);have hcz67_0 : w66.cell? ⟨gb208,0,none⟩ = some (.bool a1_0) := (blk_cell BK208.out 0).trans rfl;have hcz67_1 : w66.cell? ⟨gb208,1,none⟩ = some (.string a1_1) := (blk_cell BK208.out 1).trans rfl;have hcz67_2 : w66.cell? ⟨gb208,2,none⟩ = some (.int .i64 a1_2) := (blk_cell BK208.out 2).trans rfl;have hfz67_0 := blk_frozen BK208.out 0;have hfz67_1 := blk_frozen BK208.out 1;have hfz67_2 := blk_frozen BK208.out 2) | ((with_reducible refine gate_callee (f := 10) rfl ?_);refine goesL_ (some 31) rfl rfl Tryz.func10 (by kernel_rfl) rfl #[.agg #[.bool a1_0,.string a1_1,.int .i64 a1_2]] rfl (by (try simp only [List.map_toArray,List.map_cons,List.map_nil]);first | done | rfl | (simp only [List.length_drop,List.length_take];rfl)) ?_;(with_reducible refine (tabardref7_Point.calls kj2 a1_0 a1_1 a1_2 t210 _ A24.out).mono ?_);rintro e w68 ⟨rfl,hb⟩;refine ⟨_,rfl,?_⟩;have n0_ := Aside0.mk (blk_below (g := gb207) (o := .cells #[.bool a0_0,.string a0_1,.int .i64 a0_2] 23 (0,0)) (by (with_reducible repeat (first | refine blk_drewN ?_ _ | refine blk_drew ?_ | refine blk_alloc ?_ _));exact BK207.out) hb);have n1_ := Aside0.mk (blk_below (g := gb208) (o := .cells #[.bool a1_0,.string a1_1,.int .i64 a1_2] 23 (0,0)) (by (with_reducible repeat (first | refine blk_drewN ?_ _ | refine blk_drew ?_ | refine blk_alloc ?_ _));exact BK208.out) hb);have n2_ := Aside0.mk (below_step (by repeat (first | (with_reducible first | exact HB.out | apply below_alloc | apply pw_below_drewN | apply below_drew1 | refine below_set ?_ GE207.out | refine below_set ?_ GE208.out) | exact HB.out)) hb);clear BK207;clear BK208;clear HB;have BK207 := n0_;have BK208 := n1_;have HB := n2_;clear n0_ n1_ n2_;(try clear hb);(try clear hb2);(try clear hk);(try clear hi)))
      go_ret
      exact ⟨by first | rfl | (simp [errW_none,errW_some] <;> rfl) | (simp [*,errW_none,errW_some] <;> rfl),by repeat (first | (with_reducible first | exact HB.out | apply below_alloc | apply pw_below_drewN | apply below_drew1 | refine below_set ?_ GE207.out | refine below_set ?_ GE208.out) | exact HB.out)⟩

end Go.Proofs.YtneeeaafhjaooaaGreatDoor.P
