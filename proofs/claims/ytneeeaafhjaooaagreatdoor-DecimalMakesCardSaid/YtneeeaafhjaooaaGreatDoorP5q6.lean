-- Printed by a program of this session (wip/tools) over the kit's print: not trusted, Lean checks it.
import Derived.Test.YtneeeaafhjaooaaGreatDoorP0q6
import Derived.Test.YtneeeaafhjaooaaGreatDoorProg
import Derived.Test.YtneeeaafhjaooaaGreatDoorElibq6
import Derived.Test.YtneeeaafhjaooaaGreatDoorShelfq6
import Derived.Test.YtneeeaafhjaooaaGreatDoorP2q6
import Derived.Test.YtneeeaafhjaooaaGreatDoorP4q6
import Derived.Test.YtneeeaafhjaooaaGreatDoorLibsq6
namespace Go.Proofs.YtneeeaafhjaooaaGreatDoor.P
set_option linter.all false
open Go.RowKit Go.Proofs.YtneeeaafhjaooaaGreatDoorW.PrintWords Go.Proofs.YtneeeaafhjaooaaGreatDoorW.PrintLast Go.Proofs.YtneeeaafhjaooaaGreatDoorW.PrintMore
attribute [local go_sem] max2_int min2_int max_two min_two max_three min_three max_four min_four   -- for this text's walks alone
attribute [local go_sem] cell_after
set_option linter.unusedVariables false
set_option linter.unusedSimpArgs false

/-! ### decimal_Parse: function 16 -/
mutual
def decimal_Parse.j0 : Nat → ByteArray → Bool → ByteArray → ByteArray → Option (Bool × ByteArray × Int × Int)
 | 0,_,_,_,_ => none
 | k + 1,x0,x4,x5,x6 => if x5.size + x6.size ≤ 9223372036854775807 then (if (x5 ++ x6).toList = ([] : List UInt8) then (some (false,(⟨#[]⟩ : ByteArray),0,3)) else (if x0.toList = ([] : List UInt8) then (decimal_Parse.j1 k x0 x4 x5 x6 0 false) else (if 0 < (x0.size : Int) then (if (bt x0 0) = 101 then (decimal_Parse.j1 k x0 x4 x5 x6 0 true) else (decimal_Parse.j1 k x0 x4 x5 x6 0 ((bt x0 0) == 69))) else (none)))) else (none)
def decimal_Parse.j1 : Nat → ByteArray → Bool → ByteArray → ByteArray → Int → Bool → Option (Bool × ByteArray × Int × Int)
 | 0,_,_,_,_,_,_ => none
 | k + 1,x0,x4,x5,x6,x9,x50 => if x50 = true then (if 1 ≤ (x0.size : Int) then (if (x0.extract 1 x0.size).toList = ([] : List UInt8) then (decimal_Parse.j2 k x0 x4 x5 x6 (x0.extract 1 x0.size) false) else (if 0 < ((x0.extract 1 x0.size).size : Int) then (if (bt (x0.extract 1 x0.size) 0) = 43 then (decimal_Parse.j2 k x0 x4 x5 x6 (x0.extract 1 x0.size) true) else (decimal_Parse.j2 k x0 x4 x5 x6 (x0.extract 1 x0.size) ((bt (x0.extract 1 x0.size) 0) == 45))) else (none))) else (none)) else (if x0.toList = ([] : List UInt8) then (if x5.size + x6.size ≤ 9223372036854775807 then ((decimal_Make.f x4 (x5 ++ x6) (wrap64 (x9 - (x6.size : Int)))).bind fun bt188 => (some (bt188.1,bt188.2.1,bt188.2.2.1,bt188.2.2.2))) else (none)) else (some (false,(⟨#[]⟩ : ByteArray),0,3)))
def decimal_Parse.j2 : Nat → ByteArray → Bool → ByteArray → ByteArray → ByteArray → Bool → Option (Bool × ByteArray × Int × Int)
 | 0,_,_,_,_,_,_ => none
 | k + 1,x0,x4,x5,x6,x10,x64 => if x64 = true then (if 1 ≤ (x10.size : Int) then (decimal_Parse.j3 k x0 x4 x5 x6 (x10.extract 1 x10.size)) else (none)) else (decimal_Parse.j3 k x0 x4 x5 x6 x10)
def decimal_Parse.j3 : Nat → ByteArray → Bool → ByteArray → ByteArray → ByteArray → Option (Bool × ByteArray × Int × Int)
 | 0,_,_,_,_,_ => none
 | k + 1,x0,x4,x5,x6,x10 => (decimal_digits.f x10).bind fun bt176 => (if bt176.1.toList = ([] : List UInt8) then (decimal_Parse.j4 k x0 x4 x5 x6 bt176.1 true) else (if (bt176.1.size : Int) > 9 then (decimal_Parse.j4 k x0 x4 x5 x6 bt176.1 true) else (decimal_Parse.j4 k x0 x4 x5 x6 bt176.1 (bt176.2.toList != ([] : List UInt8)))))
def decimal_Parse.j4 : Nat → ByteArray → Bool → ByteArray → ByteArray → ByteArray → Bool → Option (Bool × ByteArray × Int × Int)
 | 0,_,_,_,_,_,_ => none
 | k + 1,x0,x4,x5,x6,x11,x82 => if x82 = true then (some (false,(⟨#[]⟩ : ByteArray),0,3)) else ((strconv_Atoi.f x11).bind fun bt178 => (if 1 < (x0.size : Int) then (if (bt x0 1) = 45 then (if x5.size + x6.size ≤ 9223372036854775807 then ((decimal_Make.f x4 (x5 ++ x6) (wrap64 ((wrap64 (-bt178.1)) - (x6.size : Int)))).bind fun bt180 => (some (bt180.1,bt180.2.1,bt180.2.2.1,bt180.2.2.2))) else (none)) else (if x5.size + x6.size ≤ 9223372036854775807 then ((decimal_Make.f x4 (x5 ++ x6) (wrap64 (bt178.1 - (x6.size : Int)))).bind fun bt184 => (some (bt184.1,bt184.2.1,bt184.2.2.1,bt184.2.2.2))) else (none))) else (none)))
end
def decimal_Parse.f (k : Nat) (a0 : ByteArray) : Option (Bool × ByteArray × Int × Int) := (strings_CutPrefix.f a0 (⟨#[45]⟩ : ByteArray)).bind fun bt168 => ((decimal_digits.f bt168.1).bind fun bt170 => ((strings_CutPrefix.f bt170.2 (⟨#[46]⟩ : ByteArray)).bind fun bt172 => (if bt172.2 = true then ((decimal_digits.f bt172.1).bind fun bt174 => (decimal_Parse.j0 k bt174.2 bt168.2 bt170.1 bt174.1)) else (decimal_Parse.j0 k bt170.2 bt168.2 bt170.1 (⟨#[]⟩ : ByteArray)))))
set_option maxHeartbeats 8000000 in
set_option maxRecDepth 100000 in
theorem decimal_Parse.calls (k : Nat) (a0 : ByteArray) (r1 : Bool) (r2 : ByteArray) (r3 : Int) (r4 : Int) (w : World) (h : decimal_Parse.f k a0 = some (r1,r2,r3,r4)) :
  Calls Tryz.prog 16 #[.string a0] w fun e w' => e = .returned (.tuple #[.agg #[.bool r1,.string r2,.int .i64 r3],.int .i64 r4]) ∧ Below w.heap.size w w' := by
 have hu23 := Tryz.underlying23
 have HB := Aside0.mk (Below.refl w.heap.size w)
 have H : ((strings_CutPrefix.f a0 (⟨#[45]⟩ : ByteArray)).bind fun bt168 => ((decimal_digits.f bt168.1).bind fun bt170 => ((strings_CutPrefix.f bt170.2 (⟨#[46]⟩ : ByteArray)).bind fun bt172 => (if bt172.2 = true then ((decimal_digits.f bt172.1).bind fun bt174 => (decimal_Parse.j0 k bt174.2 bt168.2 bt170.1 bt174.1)) else (decimal_Parse.j0 k bt170.2 bt168.2 bt170.1 (⟨#[]⟩ : ByteArray)))))) = some (r1,r2,r3,r4) := h
 clear h
 replace H := Option.bind_eq_some_iff.mp H
 obtain ⟨⟨t168,t169⟩,A20,H⟩ := H
 replace H : ((decimal_digits.f t168).bind fun bt170 => ((strings_CutPrefix.f bt170.2 (⟨#[46]⟩ : ByteArray)).bind fun bt172 => (if bt172.2 = true then ((decimal_digits.f bt172.1).bind fun bt174 => (decimal_Parse.j0 k bt174.2 t169 bt170.1 bt174.1)) else (decimal_Parse.j0 k bt170.2 t169 bt170.1 (⟨#[]⟩ : ByteArray))))) = some (r1,r2,r3,r4) := H
 have A2 := Aside0.mk A20
 clear A20
 replace H := Option.bind_eq_some_iff.mp H
 obtain ⟨⟨t170,t171⟩,A30,H⟩ := H
 replace H : ((strings_CutPrefix.f t171 (⟨#[46]⟩ : ByteArray)).bind fun bt172 => (if bt172.2 = true then ((decimal_digits.f bt172.1).bind fun bt174 => (decimal_Parse.j0 k bt174.2 t169 t170 bt174.1)) else (decimal_Parse.j0 k t171 t169 t170 (⟨#[]⟩ : ByteArray)))) = some (r1,r2,r3,r4) := H
 have A3 := Aside0.mk A30
 clear A30
 replace H := Option.bind_eq_some_iff.mp H
 obtain ⟨⟨t172,t173⟩,A40,H⟩ := H
 replace H : (if t173 = true then ((decimal_digits.f t172).bind fun bt174 => (decimal_Parse.j0 k bt174.2 t169 t170 bt174.1)) else (decimal_Parse.j0 k t171 t169 t170 (⟨#[]⟩ : ByteArray))) = some (r1,r2,r3,r4) := H
 have A4 := Aside0.mk A40
 clear A40
 have HC5 := Aside0.mk H
 clear H
 go_enter Tryz.func16,Tryz.ntmps16
 go_upto_if 28 with (first | ((with_reducible refine gate_dst (N := 2) rfl ?_);(try (refine gate_guard (by rfl) ?_;dsimp only));refine box_event ?hg (N := 2) ?hd (cs := #[.bool false,.string (⟨#[]⟩ : ByteArray),.int .i64 0]) (t := 23) ?hr ?_;(case hd => rfl);(case hg => rfl);(case hr => first | (go_simp;done) | (go_simp;rfl));intro gb167 hg w6 hbox hb;have n0_ := Aside0.mk (below_step (by repeat (first | (with_reducible first | exact HB.out | apply below_alloc | apply pw_below_drewN | apply below_drew1) | exact HB.out)) hb);have n1_ := Aside0.mk (hbox);have n2_ := Aside0.mk ((by rw [hg];exact (below_size (by repeat (first | (with_reducible first | exact HB.out | apply below_alloc | apply pw_below_drewN | apply below_drew1) | exact HB.out))) : w.heap.size ≤ gb167));have n3_ := Aside0.mk ((by rw [hg];exact (below_size (by repeat (first | (with_reducible first | exact HB.out | apply below_alloc | apply pw_below_drewN | apply below_drew1) | exact HB.out))) : w.heap.size ≤ gb167));clear HB;have HB := n0_;have BK167 := n1_;have GW167 := n2_;have GE167 := n3_;clear n0_ n1_ n2_ n3_;clear hb hbox hg) | ((with_reducible refine gate_callee (f := 28) rfl ?_);refine goesL_ (some 15) rfl rfl Tryz.func28 (by kernel_rfl) rfl #[.string a0,.string (⟨#[45]⟩ : ByteArray)] rfl (by (try simp only [List.map_toArray,List.map_cons,List.map_nil]);first | done | rfl | (simp only [List.length_drop,List.length_take];rfl)) ?_;(with_reducible refine (strings_CutPrefix.calls a0 (⟨#[45]⟩ : ByteArray) t168 t169 _ A2.out).mono ?_);rintro e w' ⟨rfl,⟨nd,rfl⟩⟩;refine ⟨_,rfl,?_⟩) | ((with_reducible refine gate_callee (f := 29) rfl ?_);refine goesL_ (some 20) rfl rfl Tryz.func29 (by kernel_rfl) rfl #[.string t168] rfl (by (try simp only [List.map_toArray,List.map_cons,List.map_nil]);first | done | rfl | (simp only [List.length_drop,List.length_take];rfl)) ?_;(with_reducible refine (decimal_digits.calls t168 t170 t171 _ A3.out).mono ?_);rintro e w7 ⟨rfl,hb⟩;refine ⟨_,rfl,?_⟩;have n0_ := Aside0.mk (blk_below (g := gb167) (o := .cells #[.bool false,.string (⟨#[]⟩ : ByteArray),.int .i64 0] 23 (0,0)) (by (with_reducible repeat (first | refine blk_drewN ?_ _ | refine blk_drew ?_ | refine blk_alloc ?_ _));exact BK167.out) hb);have n1_ := Aside0.mk (below_step (by repeat (first | (with_reducible first | exact HB.out | apply below_alloc | apply pw_below_drewN | apply below_drew1 | refine below_set ?_ GE167.out) | exact HB.out)) hb);clear BK167;clear HB;have BK167 := n0_;have HB := n1_;clear n0_ n1_;(try clear hb);(try clear hb2);(try clear hk);(try clear hi)) | ((with_reducible refine gate_callee (f := 28) rfl ?_);refine goesL_ (some 25) rfl rfl Tryz.func28 (by kernel_rfl) rfl #[.string t171,.string (⟨#[46]⟩ : ByteArray)] rfl (by (try simp only [List.map_toArray,List.map_cons,List.map_nil]);first | done | rfl | (simp only [List.length_drop,List.length_take];rfl)) ?_;(with_reducible refine (strings_CutPrefix.calls t171 (⟨#[46]⟩ : ByteArray) t172 t173 _ A4.out).mono ?_);rintro e w' ⟨rfl,⟨nd,rfl⟩⟩;refine ⟨_,rfl,?_⟩))
 (try simp only [Act.put,List.setIfInBounds_toArray,List.set_cons_zero,List.set_cons_succ])
 go_cut [0,6] (fun v0 v6 wc => ∃ (kq : Nat) (x0_4 : ByteArray) (x6_4 : ByteArray),v0 = .string x0_4 ∧ v6 = .string x6_4 ∧ Aside0 (decimal_Parse.j0 kq x0_4 t169 t170 x6_4 = some (r1,r2,r3,r4)) ∧ Aside0 (kq ≤ k) ∧ Aside0 (wc.heap[gb167]? = some (.cells #[.bool false,.string (⟨#[]⟩ : ByteArray),.int .i64 0] 23 (0,0))) ∧ Aside0 (Below w.heap.size w wc))
 case first =>
  have H := HC5.out
  clear HC5
  by_cases c8 : t173 = true
  ·subst c8
   have H1 : ((decimal_digits.f t172).bind fun bt174 => (decimal_Parse.j0 k bt174.2 t169 t170 bt174.1)) = some (r1,r2,r3,r4) := by rw [if_pos rfl] at H;exact H
   clear H
   have H := H1
   clear H1
   replace H := Option.bind_eq_some_iff.mp H
   obtain ⟨⟨t174,t175⟩,A90,H⟩ := H
   replace H : (decimal_Parse.j0 k t175 t169 t170 t174) = some (r1,r2,r3,r4) := H
   have A9 := Aside0.mk A90
   clear A90
   have H' := Aside0.mk H
   clear H
   go_wp2_with (first | ((with_reducible refine gate_callee (f := 29) rfl ?_);refine goesL_ (some 31) rfl rfl Tryz.func29 (by kernel_rfl) rfl #[.string t172] rfl (by (try simp only [List.map_toArray,List.map_cons,List.map_nil]);first | done | rfl | (simp only [List.length_drop,List.length_take];rfl)) ?_;(with_reducible refine (decimal_digits.calls t172 t174 t175 _ A9.out).mono ?_);rintro e w10 ⟨rfl,hb⟩;refine ⟨_,rfl,?_⟩;have n0_ := Aside0.mk (blk_below (g := gb167) (o := .cells #[.bool false,.string (⟨#[]⟩ : ByteArray),.int .i64 0] 23 (0,0)) (by (with_reducible repeat (first | refine blk_drewN ?_ _ | refine blk_drew ?_ | refine blk_alloc ?_ _));exact BK167.out) hb);have n1_ := Aside0.mk (below_step (by repeat (first | (with_reducible first | exact HB.out | apply below_alloc | apply pw_below_drewN | apply below_drew1 | refine below_set ?_ GE167.out) | exact HB.out)) hb);clear BK167;clear HB;have BK167 := n0_;have HB := n1_;clear n0_ n1_;(try clear hb);(try clear hb2);(try clear hk);(try clear hi)))
   go_meet
   case rel => exact ⟨_,(t175),(t174),(by first | rfl | (simp;done) | (simp [*];done)),(by first | rfl | (simp;done) | (simp [*];done)),H',⟨by first | omega | exact Nat.le_refl _⟩,⟨by (with_reducible repeat (first | refine blk_drewN ?_ _ | refine blk_drew ?_ | refine blk_alloc ?_ _));exact BK167.out⟩,⟨by repeat (first | (with_reducible first | exact HB.out | apply below_alloc | apply pw_below_drewN | apply below_drew1 | refine below_set ?_ GE167.out) | exact HB.out)⟩⟩
  ·replace c8 := Bool.eq_false_iff.mpr c8
   subst c8
   have H1 : (decimal_Parse.j0 k t171 t169 t170 (⟨#[]⟩ : ByteArray)) = some (r1,r2,r3,r4) := by rw [if_neg (show ¬ (false = true) by decide)] at H;exact H
   clear H
   have H := H1
   clear H1
   have H' := Aside0.mk H
   clear H
   go_wp2
   go_meet
   case rel => exact ⟨_,(t171),((⟨#[]⟩ : ByteArray)),(by first | rfl | (simp;done) | (simp [*];done)),(by first | rfl | (simp;done) | (simp [*];done)),H',⟨by first | omega | exact Nat.le_refl _⟩,⟨by (with_reducible repeat (first | refine blk_drewN ?_ _ | refine blk_drew ?_ | refine blk_alloc ?_ _));exact BK167.out⟩,⟨by repeat (first | (with_reducible first | exact HB.out | apply below_alloc | apply pw_below_drewN | apply below_drew1 | refine below_set ?_ GE167.out) | exact HB.out)⟩⟩
 case rest =>
  clear HC5
  try clear c1
  try clear c2
  try clear p2
  try clear c8
  obtain ⟨kq,x0_4,x6_4,rfl,rfl,HA,HJ4,BK167,HB⟩ := hcut
  cases kq with
  | zero => exact absurd HA.out (by simp [decimal_Parse.j0])
  | succ kj4 =>
   have H := HA.out
   clear HA
   simp only [decimal_Parse.j0] at H
   by_cases c11 : t170.size + x6_4.size ≤ 9223372036854775807
   ·rw [if_pos c11] at H
    have c11b0 := eq_true c11
    have c11b1 : decide (t170.size + x6_4.size ≤ 9223372036854775807) = true := decide_eq_true c11
    try have c11b2 : (9223372036854775807 < t170.size + x6_4.size) = False := eq_false (Nat.not_lt.2 c11)
    by_cases c12 : (t170 ++ x6_4).toList = ([] : List UInt8)
    ·rw [if_pos c12] at H
     have c12b0 : ((t170 ++ x6_4).toList == ([] : List UInt8)) = true := beq_iff_eq.mpr c12
     have c12b1 : ((t170 ++ x6_4).toList != ([] : List UInt8)) = false := bne_eq_false_iff_eq.mpr c12
     clear c12
     simp only [Option.some.injEq,Prod.mk.injEq] at H
     obtain ⟨rfl,rfl,rfl,rfl⟩ := H
     have hcz13_0 : wc.cell? ⟨gb167,0,none⟩ = some (.bool false) := (blk_cell BK167.out 0).trans rfl
     have hcz13_1 : wc.cell? ⟨gb167,1,none⟩ = some (.string (⟨#[]⟩ : ByteArray)) := (blk_cell BK167.out 1).trans rfl
     have hcz13_2 : wc.cell? ⟨gb167,2,none⟩ = some (.int .i64 0) := (blk_cell BK167.out 2).trans rfl
     have hfz13_0 := blk_frozen BK167.out 0
     have hfz13_1 := blk_frozen BK167.out 1
     have hfz13_2 := blk_frozen BK167.out 2
     go_wp2
     refine bodyPost_ret (results_ct rfl _ _ gb167 23 #[.bool false,.string (⟨#[]⟩ : ByteArray),.int .i64 0] (0,0) _ rfl (by (with_reducible repeat (first | refine blk_drewN ?_ _ | refine blk_drew ?_ | refine blk_alloc ?_ _));refine blk_put (cs := #[.bool false,.string (⟨#[]⟩ : ByteArray),.int .i64 0]) ?_ 2 _ rfl;(with_reducible repeat (first | refine blk_drewN ?_ _ | refine blk_drew ?_ | refine blk_alloc ?_ _));refine blk_put (cs := #[.bool false,.string (⟨#[]⟩ : ByteArray),.int .i64 0]) ?_ 1 _ rfl;(with_reducible repeat (first | refine blk_drewN ?_ _ | refine blk_drew ?_ | refine blk_alloc ?_ _));refine blk_put (cs := #[.bool false,.string (⟨#[]⟩ : ByteArray),.int .i64 0]) ?_ 0 _ rfl;(with_reducible repeat (first | refine blk_drewN ?_ _ | refine blk_drew ?_ | refine blk_alloc ?_ _));exact BK167.out) Tryz.underlying23 rfl (by kernel_rfl)) rfl ?_
     exact ⟨by first | rfl | (simp [errW_none,errW_some] <;> rfl) | (simp [*,errW_none,errW_some] <;> rfl),by repeat (first | (with_reducible first | exact HB.out | apply below_alloc | apply pw_below_drewN | apply below_drew1 | refine below_set ?_ GE167.out) | exact HB.out)⟩
    ·rw [if_neg c12] at H
     have c12b0 : ((t170 ++ x6_4).toList == ([] : List UInt8)) = false := beq_eq_false_iff_ne.mpr c12
     have c12b1 : ((t170 ++ x6_4).toList != ([] : List UInt8)) = true := bne_iff_ne.mpr c12
     have HC14 := Aside0.mk H
     clear H
     go_upto_region 10 with (fail)
     go_cut [50] (fun v50 wc => ∃ (kq : Nat) (x50_13 : Bool),v50 = .bool x50_13 ∧ Aside0 (decimal_Parse.j1 kq x0_4 t169 t170 x6_4 0 x50_13 = some (r1,r2,r3,r4)) ∧ Aside0 (kq ≤ kj4) ∧ Aside0 (wc.heap[gb167]? = some (.cells #[.bool false,.string (⟨#[]⟩ : ByteArray),.int .i64 0] 23 (0,0))) ∧ Aside0 (Below w.heap.size w wc))
     case first =>
      have H := HC14.out
      clear HC14
      by_cases c15 : x0_4.toList = ([] : List UInt8)
      ·rw [if_pos c15] at H
       have c15b0 : (x0_4.toList == ([] : List UInt8)) = true := beq_iff_eq.mpr c15
       have c15b1 : (x0_4.toList != ([] : List UInt8)) = false := bne_eq_false_iff_eq.mpr c15
       clear c15
       (first | rw [c15b0] | (simp only [i64_w,i32_w];rw [c15b0]) | skip)
       have H' := Aside0.mk H
       clear H
       go_wp2
       go_meet
       case rel => exact ⟨_,(false),(by first | rfl | (simp;done) | (simp [*];done)),H',⟨by have := HJ4.out;first | omega | exact Nat.le_refl _⟩,⟨by (with_reducible repeat (first | refine blk_drewN ?_ _ | refine blk_drew ?_ | refine blk_alloc ?_ _));exact BK167.out⟩,⟨by repeat (first | (with_reducible first | exact HB.out | apply below_alloc | apply pw_below_drewN | apply below_drew1 | refine below_set ?_ GE167.out) | exact HB.out)⟩⟩
      ·rw [if_neg c15] at H
       have c15b0 : (x0_4.toList == ([] : List UInt8)) = false := beq_eq_false_iff_ne.mpr c15
       have c15b1 : (x0_4.toList != ([] : List UInt8)) = true := bne_iff_ne.mpr c15
       (first | rw [c15b0] | (simp only [i64_w,i32_w];rw [c15b0]) | skip)
       by_cases c16 : 0 < (x0_4.size : Int)
       ·rw [if_pos c16] at H
        have c16b0 : decide (0 < (x0_4.size : Int)) = true := decide_eq_true c16
        have c16b1 : decide (0 < x0_4.size) = true := decide_eq_true (by omega)
        clear c16
        by_cases c18 : (bt x0_4 0) = 101
        ·rw [if_pos c18] at H
         have c18b0 : ((bt x0_4 0) == 101) = true := beq_iff_eq.mpr c18
         have c18b1 : ((bt x0_4 0) != 101) = false := bne_eq_false_iff_eq.mpr c18
         clear c18
         have H' := Aside0.mk H
         clear H
         have p17 : 0 ≤ (0 : Int) := (by omega)
         have q17 : 0 < x0_4.size := (by have : (0 : Int) < (x0_4.size : Int) := of_decide_eq_true (by first | (with_reducible assumption) | assumption);omega)
         have hx17 : ∀ h : 0 < x0_4.size,((x0_4[0]'h).toNat : Int) = bt x0_4 0 := bt_at x0_4 0
         clear p17
         have qi17 : (0 < (x0_4.size : Int)) = True := eq_true (of_decide_eq_true (by first | (with_reducible assumption) | assumption))
         replace q17 := eq_true q17
         go_wp2
         go_meet
         case rel => exact ⟨_,(true),(by first | rfl | (simp;done) | (simp [*];done)),H',⟨by have := HJ4.out;first | omega | exact Nat.le_refl _⟩,⟨by (with_reducible repeat (first | refine blk_drewN ?_ _ | refine blk_drew ?_ | refine blk_alloc ?_ _));exact BK167.out⟩,⟨by repeat (first | (with_reducible first | exact HB.out | apply below_alloc | apply pw_below_drewN | apply below_drew1 | refine below_set ?_ GE167.out) | exact HB.out)⟩⟩
        ·rw [if_neg c18] at H
         have c18b0 : ((bt x0_4 0) == 101) = false := beq_eq_false_iff_ne.mpr c18
         have c18b1 : ((bt x0_4 0) != 101) = true := bne_iff_ne.mpr c18
         have H' := Aside0.mk H
         clear H
         have p17 : 0 ≤ (0 : Int) := (by omega)
         have q17 : 0 < x0_4.size := (by have : (0 : Int) < (x0_4.size : Int) := of_decide_eq_true (by first | (with_reducible assumption) | assumption);omega)
         have hx17 : ∀ h : 0 < x0_4.size,((x0_4[0]'h).toNat : Int) = bt x0_4 0 := bt_at x0_4 0
         clear p17
         have qi17 : (0 < (x0_4.size : Int)) = True := eq_true (of_decide_eq_true (by first | (with_reducible assumption) | assumption))
         replace q17 := eq_true q17
         have p19 : 0 ≤ (0 : Int) := (by omega)
         have q19 : 0 < x0_4.size := (by have : (0 : Int) < (x0_4.size : Int) := of_decide_eq_true (by first | (with_reducible assumption) | assumption);omega)
         have hx19 : ∀ h : 0 < x0_4.size,((x0_4[0]'h).toNat : Int) = bt x0_4 0 := bt_at x0_4 0
         clear p19
         have qi19 : (0 < (x0_4.size : Int)) = True := eq_true (of_decide_eq_true (by first | (with_reducible assumption) | assumption))
         replace q19 := eq_true q19
         go_wp2
         go_meet
         case rel => exact ⟨_,(((bt x0_4 0) == 69)),(by first | rfl | (simp;done) | (simp [*];done)),H',⟨by have := HJ4.out;first | omega | exact Nat.le_refl _⟩,⟨by (with_reducible repeat (first | refine blk_drewN ?_ _ | refine blk_drew ?_ | refine blk_alloc ?_ _));exact BK167.out⟩,⟨by repeat (first | (with_reducible first | exact HB.out | apply below_alloc | apply pw_below_drewN | apply below_drew1 | refine below_set ?_ GE167.out) | exact HB.out)⟩⟩
       ·rw [if_neg c16] at H
        exact absurd H (by simp)
     case rest =>
      clear HC14
      try clear c1
      try clear p1
      try clear q1
      try clear hx1
      try clear qi1
      try clear c2
      try clear p2
      try clear c8
      try clear c11
      try clear c11b0
      try clear c11b1
      try clear c11b2
      try clear c12
      try clear c12b0
      try clear c12b1
      try clear c15
      try clear c15b0
      try clear c15b1
      try clear c16
      try clear c16b0
      try clear c16b1
      try clear p17
      try clear q17
      try clear hx17
      try clear qi17
      try clear c18
      try clear c18b0
      try clear c18b1
      try clear p19
      try clear q19
      try clear hx19
      try clear qi19
      try clear hcz13_0
      try clear hcz13_1
      try clear hcz13_2
      try clear hfz13_0
      try clear hfz13_1
      try clear hfz13_2
      try clear p17
      try clear p19
      try clear p2
      try clear q17
      try clear q19
      obtain ⟨kq,x50_13,rfl,HA,HJ13,BK167,HB⟩ := hcut
      cases kq with
      | zero => exact absurd HA.out (by simp [decimal_Parse.j1])
      | succ kj13 =>
       have H := HA.out
       clear HA
       simp only [decimal_Parse.j1] at H
       by_cases c20 : x50_13 = true
       ·subst c20
        have H1 : (if 1 ≤ (x0_4.size : Int) then (if (x0_4.extract 1 x0_4.size).toList = ([] : List UInt8) then (decimal_Parse.j2 kj13 x0_4 t169 t170 x6_4 (x0_4.extract 1 x0_4.size) false) else (if 0 < ((x0_4.extract 1 x0_4.size).size : Int) then (if (bt (x0_4.extract 1 x0_4.size) 0) = 43 then (decimal_Parse.j2 kj13 x0_4 t169 t170 x6_4 (x0_4.extract 1 x0_4.size) true) else (decimal_Parse.j2 kj13 x0_4 t169 t170 x6_4 (x0_4.extract 1 x0_4.size) ((bt (x0_4.extract 1 x0_4.size) 0) == 45))) else (none))) else (none)) = some (r1,r2,r3,r4) := by rw [if_pos rfl] at H;exact H
        clear H
        have H := H1
        clear H1
        by_cases c21 : 1 ≤ (x0_4.size : Int)
        ·rw [if_pos c21] at H
         have c21b0 := eq_true c21
         have c21b1 : decide (1 ≤ (x0_4.size : Int)) = true := decide_eq_true c21
         clear c21
         have HC22 := Aside0.mk H
         clear H
         go_upto_region 12 with (fail)
         obtain ⟨xt1,hxt1⟩ : ∃ z_ : ByteArray,(x0_4.extract 1 x0_4.size) = z_ := ⟨_,rfl⟩
         rw [hxt1]
         rw [hxt1] at HC22
         clear hxt1
         go_cut [64] (fun v64 wc => ∃ (kq : Nat) (x64_21 : Bool),v64 = .bool x64_21 ∧ Aside0 (decimal_Parse.j2 kq x0_4 t169 t170 x6_4 xt1 x64_21 = some (r1,r2,r3,r4)) ∧ Aside0 (kq ≤ kj13) ∧ Aside0 (wc.heap[gb167]? = some (.cells #[.bool false,.string (⟨#[]⟩ : ByteArray),.int .i64 0] 23 (0,0))) ∧ Aside0 (Below w.heap.size w wc))
         case first =>
          have H := HC22.out
          clear HC22
          by_cases c23 : xt1.toList = ([] : List UInt8)
          ·rw [if_pos c23] at H
           have c23b0 : (xt1.toList == ([] : List UInt8)) = true := beq_iff_eq.mpr c23
           have c23b1 : (xt1.toList != ([] : List UInt8)) = false := bne_eq_false_iff_eq.mpr c23
           clear c23
           (first | rw [c23b0] | (simp only [i64_w,i32_w];rw [c23b0]) | skip)
           have H' := Aside0.mk H
           clear H
           go_wp2
           go_meet
           case rel => exact ⟨_,(false),(by first | rfl | (simp;done) | (simp [*];done)),H',⟨by have := HJ4.out;have := HJ13.out;first | omega | exact Nat.le_refl _⟩,⟨by (with_reducible repeat (first | refine blk_drewN ?_ _ | refine blk_drew ?_ | refine blk_alloc ?_ _));exact BK167.out⟩,⟨by repeat (first | (with_reducible first | exact HB.out | apply below_alloc | apply pw_below_drewN | apply below_drew1 | refine below_set ?_ GE167.out) | exact HB.out)⟩⟩
          ·rw [if_neg c23] at H
           have c23b0 : (xt1.toList == ([] : List UInt8)) = false := beq_eq_false_iff_ne.mpr c23
           have c23b1 : (xt1.toList != ([] : List UInt8)) = true := bne_iff_ne.mpr c23
           (first | rw [c23b0] | (simp only [i64_w,i32_w];rw [c23b0]) | skip)
           by_cases c24 : 0 < (xt1.size : Int)
           ·rw [if_pos c24] at H
            have c24b0 : decide (0 < (xt1.size : Int)) = true := decide_eq_true c24
            have c24b1 : decide (0 < xt1.size) = true := decide_eq_true (by omega)
            clear c24
            by_cases c26 : (bt xt1 0) = 43
            ·rw [if_pos c26] at H
             have c26b0 : ((bt xt1 0) == 43) = true := beq_iff_eq.mpr c26
             have c26b1 : ((bt xt1 0) != 43) = false := bne_eq_false_iff_eq.mpr c26
             clear c26
             have H' := Aside0.mk H
             clear H
             have p25 : 0 ≤ (0 : Int) := (by omega)
             have q25 : 0 < xt1.size := (by have : (0 : Int) < (xt1.size : Int) := of_decide_eq_true (by first | (with_reducible assumption) | assumption);omega)
             have hx25 : ∀ h : 0 < xt1.size,((xt1[0]'h).toNat : Int) = bt xt1 0 := bt_at xt1 0
             clear p25
             have qi25 : (0 < (xt1.size : Int)) = True := eq_true (of_decide_eq_true (by first | (with_reducible assumption) | assumption))
             replace q25 := eq_true q25
             go_wp2
             go_meet
             case rel => exact ⟨_,(true),(by first | rfl | (simp;done) | (simp [*];done)),H',⟨by have := HJ4.out;have := HJ13.out;first | omega | exact Nat.le_refl _⟩,⟨by (with_reducible repeat (first | refine blk_drewN ?_ _ | refine blk_drew ?_ | refine blk_alloc ?_ _));exact BK167.out⟩,⟨by repeat (first | (with_reducible first | exact HB.out | apply below_alloc | apply pw_below_drewN | apply below_drew1 | refine below_set ?_ GE167.out) | exact HB.out)⟩⟩
            ·rw [if_neg c26] at H
             have c26b0 : ((bt xt1 0) == 43) = false := beq_eq_false_iff_ne.mpr c26
             have c26b1 : ((bt xt1 0) != 43) = true := bne_iff_ne.mpr c26
             have H' := Aside0.mk H
             clear H
             have p25 : 0 ≤ (0 : Int) := (by omega)
             have q25 : 0 < xt1.size := (by have : (0 : Int) < (xt1.size : Int) := of_decide_eq_true (by first | (with_reducible assumption) | assumption);omega)
             have hx25 : ∀ h : 0 < xt1.size,((xt1[0]'h).toNat : Int) = bt xt1 0 := bt_at xt1 0
             clear p25
             have qi25 : (0 < (xt1.size : Int)) = True := eq_true (of_decide_eq_true (by first | (with_reducible assumption) | assumption))
             replace q25 := eq_true q25
             have p27 : 0 ≤ (0 : Int) := (by omega)
             have q27 : 0 < xt1.size := (by have : (0 : Int) < (xt1.size : Int) := of_decide_eq_true (by first | (with_reducible assumption) | assumption);omega)
             have hx27 : ∀ h : 0 < xt1.size,((xt1[0]'h).toNat : Int) = bt xt1 0 := bt_at xt1 0
             clear p27
             have qi27 : (0 < (xt1.size : Int)) = True := eq_true (of_decide_eq_true (by first | (with_reducible assumption) | assumption))
             replace q27 := eq_true q27
             go_wp2
             go_meet
             case rel => exact ⟨_,(((bt xt1 0) == 45)),(by first | rfl | (simp;done) | (simp [*];done)),H',⟨by have := HJ4.out;have := HJ13.out;first | omega | exact Nat.le_refl _⟩,⟨by (with_reducible repeat (first | refine blk_drewN ?_ _ | refine blk_drew ?_ | refine blk_alloc ?_ _));exact BK167.out⟩,⟨by repeat (first | (with_reducible first | exact HB.out | apply below_alloc | apply pw_below_drewN | apply below_drew1 | refine below_set ?_ GE167.out) | exact HB.out)⟩⟩
           ·rw [if_neg c24] at H
            exact absurd H (by simp)
         case rest =>
          clear HC22
          try clear c1
          try clear p1
          try clear q1
          try clear hx1
          try clear qi1
          try clear c2
          try clear p2
          try clear q2
          try clear hx2
          try clear qi2
          try clear c8
          try clear c11
          try clear c11b0
          try clear c11b1
          try clear c11b2
          try clear c12
          try clear c12b0
          try clear c12b1
          try clear c15
          try clear c15b0
          try clear c15b1
          try clear c16
          try clear c16b0
          try clear c16b1
          try clear p17
          try clear q17
          try clear hx17
          try clear qi17
          try clear c18
          try clear c18b0
          try clear c18b1
          try clear p19
          try clear q19
          try clear hx19
          try clear qi19
          try clear c20
          try clear c21
          try clear c21b0
          try clear c21b1
          try clear c23
          try clear c23b0
          try clear c23b1
          try clear c24
          try clear c24b0
          try clear c24b1
          try clear p25
          try clear q25
          try clear hx25
          try clear qi25
          try clear c26
          try clear c26b0
          try clear c26b1
          try clear p27
          try clear q27
          try clear hx27
          try clear qi27
          try clear hcz13_0
          try clear hcz13_1
          try clear hcz13_2
          try clear hfz13_0
          try clear hfz13_1
          try clear hfz13_2
          try clear p1
          try clear p17
          try clear p19
          try clear p2
          try clear p25
          try clear p27
          try clear q1
          try clear q17
          try clear q19
          try clear q25
          try clear q27
          obtain ⟨kq,x64_21,rfl,HA,HJ21,BK167,HB⟩ := hcut
          cases kq with
          | zero => exact absurd HA.out (by simp [decimal_Parse.j2])
          | succ kj21 =>
           have H := HA.out
           clear HA
           simp only [decimal_Parse.j2] at H
           have HC28 := Aside0.mk H
           clear H
           go_upto_if 64 with (fail)
           go_cut [10] (fun v10 wc => ∃ (kq : Nat) (x10_27 : ByteArray),v10 = .string x10_27 ∧ Aside0 (decimal_Parse.j3 kq x0_4 t169 t170 x6_4 x10_27 = some (r1,r2,r3,r4)) ∧ Aside0 (kq ≤ kj21) ∧ Aside0 (wc.heap[gb167]? = some (.cells #[.bool false,.string (⟨#[]⟩ : ByteArray),.int .i64 0] 23 (0,0))) ∧ Aside0 (Below w.heap.size w wc))
           case first =>
            have H := HC28.out
            clear HC28
            by_cases c29 : x64_21 = true
            ·subst c29
             have H1 : (if 1 ≤ (xt1.size : Int) then (decimal_Parse.j3 kj21 x0_4 t169 t170 x6_4 (xt1.extract 1 xt1.size)) else (none)) = some (r1,r2,r3,r4) := by rw [if_pos rfl] at H;exact H
             clear H
             have H := H1
             clear H1
             by_cases c30 : 1 ≤ (xt1.size : Int)
             ·rw [if_pos c30] at H
              have c30b0 := eq_true c30
              have c30b1 : decide (1 ≤ (xt1.size : Int)) = true := decide_eq_true c30
              clear c30
              have H' := Aside0.mk H
              clear H
              go_wp2
              go_meet
              case rel => exact ⟨_,(xt1.extract 1 xt1.size),(by first | rfl | (simp;done) | (simp [*];done)),H',⟨by have := HJ4.out;have := HJ13.out;have := HJ21.out;first | omega | exact Nat.le_refl _⟩,⟨by (with_reducible repeat (first | refine blk_drewN ?_ _ | refine blk_drew ?_ | refine blk_alloc ?_ _));exact BK167.out⟩,⟨by repeat (first | (with_reducible first | exact HB.out | apply below_alloc | apply pw_below_drewN | apply below_drew1 | refine below_set ?_ GE167.out) | exact HB.out)⟩⟩
             ·rw [if_neg c30] at H
              exact absurd H (by simp)
            ·replace c29 := Bool.eq_false_iff.mpr c29
             subst c29
             have H1 : (decimal_Parse.j3 kj21 x0_4 t169 t170 x6_4 xt1) = some (r1,r2,r3,r4) := by rw [if_neg (show ¬ (false = true) by decide)] at H;exact H
             clear H
             have H := H1
             clear H1
             have H' := Aside0.mk H
             clear H
             go_wp2
             go_meet
             case rel => exact ⟨_,(xt1),(by first | rfl | (simp;done) | (simp [*];done)),H',⟨by have := HJ4.out;have := HJ13.out;have := HJ21.out;first | omega | exact Nat.le_refl _⟩,⟨by (with_reducible repeat (first | refine blk_drewN ?_ _ | refine blk_drew ?_ | refine blk_alloc ?_ _));exact BK167.out⟩,⟨by repeat (first | (with_reducible first | exact HB.out | apply below_alloc | apply pw_below_drewN | apply below_drew1 | refine below_set ?_ GE167.out) | exact HB.out)⟩⟩
           case rest =>
            clear HC28
            try clear c1
            try clear p1
            try clear q1
            try clear hx1
            try clear qi1
            try clear c2
            try clear p2
            try clear q2
            try clear hx2
            try clear qi2
            try clear c3
            try clear c8
            try clear c11
            try clear c11b0
            try clear c11b1
            try clear c11b2
            try clear c12
            try clear c12b0
            try clear c12b1
            try clear c15
            try clear c15b0
            try clear c15b1
            try clear c16
            try clear c16b0
            try clear c16b1
            try clear p17
            try clear q17
            try clear hx17
            try clear qi17
            try clear c18
            try clear c18b0
            try clear c18b1
            try clear p19
            try clear q19
            try clear hx19
            try clear qi19
            try clear c20
            try clear c21
            try clear c21b0
            try clear c21b1
            try clear c23
            try clear c23b0
            try clear c23b1
            try clear c24
            try clear c24b0
            try clear c24b1
            try clear p25
            try clear q25
            try clear hx25
            try clear qi25
            try clear c26
            try clear c26b0
            try clear c26b1
            try clear p27
            try clear q27
            try clear hx27
            try clear qi27
            try clear c28
            try clear c29
            try clear c30
            try clear c30b0
            try clear c30b1
            try clear hcz13_0
            try clear hcz13_1
            try clear hcz13_2
            try clear hfz13_0
            try clear hfz13_1
            try clear hfz13_2
            try clear p1
            try clear p17
            try clear p19
            try clear p2
            try clear p25
            try clear p27
            try clear q1
            try clear q17
            try clear q19
            try clear q2
            try clear q25
            try clear q27
            obtain ⟨kq,x10_27,rfl,HA,HJ27,BK167,HB⟩ := hcut
            cases kq with
            | zero => exact absurd HA.out (by simp [decimal_Parse.j3])
            | succ kj27 =>
             have H := HA.out
             clear HA
             simp only [decimal_Parse.j3] at H
             replace H := Option.bind_eq_some_iff.mp H
             obtain ⟨⟨t176,t177⟩,A310,H⟩ := H
             replace H : (if t176.toList = ([] : List UInt8) then (decimal_Parse.j4 kj27 x0_4 t169 t170 x6_4 t176 true) else (if (t176.size : Int) > 9 then (decimal_Parse.j4 kj27 x0_4 t169 t170 x6_4 t176 true) else (decimal_Parse.j4 kj27 x0_4 t169 t170 x6_4 t176 (t177.toList != ([] : List UInt8))))) = some (r1,r2,r3,r4) := H
             have A31 := Aside0.mk A310
             clear A310
             have HC32 := Aside0.mk H
             clear H
             go_upto_region 15 with (first | ((with_reducible refine gate_callee (f := 29) rfl ?_);refine goesL_ (some 69) rfl rfl Tryz.func29 (by kernel_rfl) rfl #[.string x10_27] rfl (by (try simp only [List.map_toArray,List.map_cons,List.map_nil]);first | done | rfl | (simp only [List.length_drop,List.length_take];rfl)) ?_;(with_reducible refine (decimal_digits.calls x10_27 t176 t177 _ A31.out).mono ?_);rintro e w33 ⟨rfl,hb⟩;refine ⟨_,rfl,?_⟩;have n0_ := Aside0.mk (blk_below (g := gb167) (o := .cells #[.bool false,.string (⟨#[]⟩ : ByteArray),.int .i64 0] 23 (0,0)) (by (with_reducible repeat (first | refine blk_drewN ?_ _ | refine blk_drew ?_ | refine blk_alloc ?_ _));exact BK167.out) hb);have n1_ := Aside0.mk (below_step (by repeat (first | (with_reducible first | exact HB.out | apply below_alloc | apply pw_below_drewN | apply below_drew1 | refine below_set ?_ GE167.out) | exact HB.out)) hb);clear BK167;clear HB;have BK167 := n0_;have HB := n1_;clear n0_ n1_;(try clear hb);(try clear hb2);(try clear hk);(try clear hi)))
             (try simp only [Act.put,List.setIfInBounds_toArray,List.set_cons_zero,List.set_cons_succ])
             go_cut [82] (fun v82 wc => ∃ (kq : Nat) (x82_31 : Bool),v82 = .bool x82_31 ∧ Aside0 (decimal_Parse.j4 kq x0_4 t169 t170 x6_4 t176 x82_31 = some (r1,r2,r3,r4)) ∧ Aside0 (kq ≤ kj27) ∧ Aside0 (wc.heap[gb167]? = some (.cells #[.bool false,.string (⟨#[]⟩ : ByteArray),.int .i64 0] 23 (0,0))) ∧ Aside0 (Below w.heap.size w wc))
             case first =>
              have H := HC32.out
              clear HC32
              by_cases c34 : t176.toList = ([] : List UInt8)
              ·rw [if_pos c34] at H
               have c34b0 : (t176.toList == ([] : List UInt8)) = true := beq_iff_eq.mpr c34
               have c34b1 : (t176.toList != ([] : List UInt8)) = false := bne_eq_false_iff_eq.mpr c34
               clear c34
               (first | rw [c34b0] | (simp only [i64_w,i32_w];rw [c34b0]) | skip)
               have H' := Aside0.mk H
               clear H
               go_wp2
               go_meet
               case rel => exact ⟨_,(true),(by first | rfl | (simp;done) | (simp [*];done)),H',⟨by have := HJ4.out;have := HJ13.out;have := HJ21.out;have := HJ27.out;first | omega | exact Nat.le_refl _⟩,⟨by (with_reducible repeat (first | refine blk_drewN ?_ _ | refine blk_drew ?_ | refine blk_alloc ?_ _));exact BK167.out⟩,⟨by repeat (first | (with_reducible first | exact HB.out | apply below_alloc | apply pw_below_drewN | apply below_drew1 | refine below_set ?_ GE167.out) | exact HB.out)⟩⟩
              ·rw [if_neg c34] at H
               have c34b0 : (t176.toList == ([] : List UInt8)) = false := beq_eq_false_iff_ne.mpr c34
               have c34b1 : (t176.toList != ([] : List UInt8)) = true := bne_iff_ne.mpr c34
               (first | rw [c34b0] | (simp only [i64_w,i32_w];rw [c34b0]) | skip)
               by_cases c35 : (t176.size : Int) > 9
               ·rw [if_pos c35] at H
                have c35b0 : decide (9 < (t176.size : Int)) = true := decide_eq_true c35
                have c35b1 : decide (9 < t176.size) = true := decide_eq_true (by omega)
                clear c35
                have H' := Aside0.mk H
                clear H
                go_wp2
                go_meet
                case rel => exact ⟨_,(true),(by first | rfl | (simp;done) | (simp [*];done)),H',⟨by have := HJ4.out;have := HJ13.out;have := HJ21.out;have := HJ27.out;first | omega | exact Nat.le_refl _⟩,⟨by (with_reducible repeat (first | refine blk_drewN ?_ _ | refine blk_drew ?_ | refine blk_alloc ?_ _));exact BK167.out⟩,⟨by repeat (first | (with_reducible first | exact HB.out | apply below_alloc | apply pw_below_drewN | apply below_drew1 | refine below_set ?_ GE167.out) | exact HB.out)⟩⟩
               ·rw [if_neg c35] at H
                have c35b0 : decide (9 < (t176.size : Int)) = false := decide_eq_false c35
                have c35b1 : decide (9 < t176.size) = false := decide_eq_false (by omega)
                clear c35
                have H' := Aside0.mk H
                clear H
                go_wp2
                go_meet
                case rel => exact ⟨_,((t177.toList != ([] : List UInt8))),(by first | rfl | (simp;done) | (simp [*];done) | (cases hq_ : t177.toList <;> simp [hq_];done) | (cases hq_ : t177.toList <;> rfl)),H',⟨by have := HJ4.out;have := HJ13.out;have := HJ21.out;have := HJ27.out;first | omega | exact Nat.le_refl _⟩,⟨by (with_reducible repeat (first | refine blk_drewN ?_ _ | refine blk_drew ?_ | refine blk_alloc ?_ _));exact BK167.out⟩,⟨by repeat (first | (with_reducible first | exact HB.out | apply below_alloc | apply pw_below_drewN | apply below_drew1 | refine below_set ?_ GE167.out) | exact HB.out)⟩⟩
             case rest =>
              clear HC32
              try clear c1
              try clear p1
              try clear q1
              try clear hx1
              try clear qi1
              try clear c2
              try clear p2
              try clear q2
              try clear hx2
              try clear qi2
              try clear c3
              try clear c8
              try clear c11
              try clear c11b0
              try clear c11b1
              try clear c11b2
              try clear c12
              try clear c12b0
              try clear c12b1
              try clear c15
              try clear c15b0
              try clear c15b1
              try clear c16
              try clear c16b0
              try clear c16b1
              try clear p17
              try clear q17
              try clear hx17
              try clear qi17
              try clear c18
              try clear c18b0
              try clear c18b1
              try clear p19
              try clear q19
              try clear hx19
              try clear qi19
              try clear c20
              try clear c21
              try clear c21b0
              try clear c21b1
              try clear c23
              try clear c23b0
              try clear c23b1
              try clear c24
              try clear c24b0
              try clear c24b1
              try clear p25
              try clear q25
              try clear hx25
              try clear qi25
              try clear c26
              try clear c26b0
              try clear c26b1
              try clear p27
              try clear q27
              try clear hx27
              try clear qi27
              try clear c28
              try clear c29
              try clear c30
              try clear c30b0
              try clear c30b1
              try clear c34
              try clear c34b0
              try clear c34b1
              try clear c35
              try clear c35b0
              try clear c35b1
              try clear hcz13_0
              try clear hcz13_1
              try clear hcz13_2
              try clear hfz13_0
              try clear hfz13_1
              try clear hfz13_2
              try clear p1
              try clear p17
              try clear p19
              try clear p2
              try clear p25
              try clear p27
              try clear q1
              try clear q17
              try clear q19
              try clear q2
              try clear q25
              try clear q27
              obtain ⟨kq,x82_31,rfl,HA,HJ31,BK167,HB⟩ := hcut
              cases kq with
              | zero => exact absurd HA.out (by simp [decimal_Parse.j4])
              | succ kj31 =>
               have H := HA.out
               clear HA
               simp only [decimal_Parse.j4] at H
               by_cases c36 : x82_31 = true
               ·subst c36
                have H1 : (some (false,(⟨#[]⟩ : ByteArray),0,3)) = some (r1,r2,r3,r4) := by rw [if_pos rfl] at H;exact H
                clear H
                have H := H1
                clear H1
                simp only [Option.some.injEq,Prod.mk.injEq] at H
                obtain ⟨rfl,rfl,rfl,rfl⟩ := H
                have hcz37_0 : wc.cell? ⟨gb167,0,none⟩ = some (.bool false) := (blk_cell BK167.out 0).trans rfl
                have hcz37_1 : wc.cell? ⟨gb167,1,none⟩ = some (.string (⟨#[]⟩ : ByteArray)) := (blk_cell BK167.out 1).trans rfl
                have hcz37_2 : wc.cell? ⟨gb167,2,none⟩ = some (.int .i64 0) := (blk_cell BK167.out 2).trans rfl
                have hfz37_0 := blk_frozen BK167.out 0
                have hfz37_1 := blk_frozen BK167.out 1
                have hfz37_2 := blk_frozen BK167.out 2
                go_wp2
                refine bodyPost_ret (results_ct rfl _ _ gb167 23 #[.bool false,.string (⟨#[]⟩ : ByteArray),.int .i64 0] (0,0) _ rfl (by (with_reducible repeat (first | refine blk_drewN ?_ _ | refine blk_drew ?_ | refine blk_alloc ?_ _));refine blk_put (cs := #[.bool false,.string (⟨#[]⟩ : ByteArray),.int .i64 0]) ?_ 2 _ rfl;(with_reducible repeat (first | refine blk_drewN ?_ _ | refine blk_drew ?_ | refine blk_alloc ?_ _));refine blk_put (cs := #[.bool false,.string (⟨#[]⟩ : ByteArray),.int .i64 0]) ?_ 1 _ rfl;(with_reducible repeat (first | refine blk_drewN ?_ _ | refine blk_drew ?_ | refine blk_alloc ?_ _));refine blk_put (cs := #[.bool false,.string (⟨#[]⟩ : ByteArray),.int .i64 0]) ?_ 0 _ rfl;(with_reducible repeat (first | refine blk_drewN ?_ _ | refine blk_drew ?_ | refine blk_alloc ?_ _));exact BK167.out) Tryz.underlying23 rfl (by kernel_rfl)) rfl ?_
                exact ⟨by first | rfl | (simp [errW_none,errW_some] <;> rfl) | (simp [*,errW_none,errW_some] <;> rfl),by repeat (first | (with_reducible first | exact HB.out | apply below_alloc | apply pw_below_drewN | apply below_drew1 | refine below_set ?_ GE167.out) | exact HB.out)⟩
               ·replace c36 := Bool.eq_false_iff.mpr c36
                subst c36
                have H1 : ((strconv_Atoi.f t176).bind fun bt178 => (if 1 < (x0_4.size : Int) then (if (bt x0_4 1) = 45 then (if t170.size + x6_4.size ≤ 9223372036854775807 then ((decimal_Make.f t169 (t170 ++ x6_4) (wrap64 ((wrap64 (-bt178.1)) - (x6_4.size : Int)))).bind fun bt180 => (some (bt180.1,bt180.2.1,bt180.2.2.1,bt180.2.2.2))) else (none)) else (if t170.size + x6_4.size ≤ 9223372036854775807 then ((decimal_Make.f t169 (t170 ++ x6_4) (wrap64 (bt178.1 - (x6_4.size : Int)))).bind fun bt184 => (some (bt184.1,bt184.2.1,bt184.2.2.1,bt184.2.2.2))) else (none))) else (none))) = some (r1,r2,r3,r4) := by rw [if_neg (show ¬ (false = true) by decide)] at H;exact H
                clear H
                have H := H1
                clear H1
                replace H := Option.bind_eq_some_iff.mp H
                obtain ⟨⟨t178,t179⟩,A380,H⟩ := H
                replace H : (if 1 < (x0_4.size : Int) then (if (bt x0_4 1) = 45 then (if t170.size + x6_4.size ≤ 9223372036854775807 then ((decimal_Make.f t169 (t170 ++ x6_4) (wrap64 ((wrap64 (-t178)) - (x6_4.size : Int)))).bind fun bt180 => (some (bt180.1,bt180.2.1,bt180.2.2.1,bt180.2.2.2))) else (none)) else (if t170.size + x6_4.size ≤ 9223372036854775807 then ((decimal_Make.f t169 (t170 ++ x6_4) (wrap64 (t178 - (x6_4.size : Int)))).bind fun bt184 => (some (bt184.1,bt184.2.1,bt184.2.2.1,bt184.2.2.2))) else (none))) else (none)) = some (r1,r2,r3,r4) := H
                have A38 := Aside0.mk A380
                clear A380
                by_cases c39 : 1 < (x0_4.size : Int)
                ·rw [if_pos c39] at H
                 have c39b0 : decide (1 < (x0_4.size : Int)) = true := decide_eq_true c39
                 have c39b1 : decide (1 < x0_4.size) = true := decide_eq_true (by omega)
                 clear c39
                 by_cases c41 : (bt x0_4 1) = 45
                 ·rw [if_pos c41] at H
                  have c41b0 : ((bt x0_4 1) == 45) = true := beq_iff_eq.mpr c41
                  have c41b1 : ((bt x0_4 1) != 45) = false := bne_eq_false_iff_eq.mpr c41
                  clear c41
                  by_cases c42 : t170.size + x6_4.size ≤ 9223372036854775807
                  ·rw [if_pos c42] at H
                   have c42b0 := eq_true c42
                   have c42b1 : decide (t170.size + x6_4.size ≤ 9223372036854775807) = true := decide_eq_true c42
                   try have c42b2 : (9223372036854775807 < t170.size + x6_4.size) = False := eq_false (Nat.not_lt.2 c42)
                   replace H := Option.bind_eq_some_iff.mp H
                   obtain ⟨⟨t180,t181,t182,t183⟩,A430,H⟩ := H
                   replace H : (some (t180,t181,t182,t183)) = some (r1,r2,r3,r4) := H
                   have A43 := Aside0.mk A430
                   clear A430
                   simp only [Option.some.injEq,Prod.mk.injEq] at H
                   obtain ⟨rfl,rfl,rfl,rfl⟩ := H
                   go_wp2_with (first | ((with_reducible refine gate_callee (f := 30) rfl ?_);refine goesL_ (some 86) rfl rfl Tryz.func30 (by kernel_rfl) rfl #[.string t176] rfl (by (try simp only [List.map_toArray,List.map_cons,List.map_nil]);first | done | rfl | (simp only [List.length_drop,List.length_take];rfl)) ?_;(with_reducible refine (strconv_Atoi.calls t176 t178 t179 _ A38.out).mono ?_);rintro e w44 ⟨rfl,hb⟩;refine ⟨_,rfl,?_⟩;have n0_ := Aside0.mk (blk_below (g := gb167) (o := .cells #[.bool false,.string (⟨#[]⟩ : ByteArray),.int .i64 0] 23 (0,0)) (by (with_reducible repeat (first | refine blk_drewN ?_ _ | refine blk_drew ?_ | refine blk_alloc ?_ _));exact BK167.out) hb);have n1_ := Aside0.mk (below_step (by repeat (first | (with_reducible first | exact HB.out | apply below_alloc | apply pw_below_drewN | apply below_drew1 | refine below_set ?_ GE167.out) | exact HB.out)) hb);clear BK167;clear HB;have BK167 := n0_;have HB := n1_;clear n0_ n1_;(try clear hb);(try clear hb2);(try clear hk);(try clear hi);(try simp only [errW_none,errW_some]);have p40 : 0 ≤ (1 : Int) := (by omega);have q40 : 1 < x0_4.size := (by have : (1 : Int) < (x0_4.size : Int) := of_decide_eq_true (by first | (with_reducible assumption) | assumption);omega);have hx40 : ∀ h : 1 < x0_4.size,((x0_4[1]'h).toNat : Int) = bt x0_4 1 := bt_at x0_4 1;clear p40;have qi40 : (1 < (x0_4.size : Int)) = True := eq_true (of_decide_eq_true (by first | (with_reducible assumption) | assumption));replace q40 := eq_true q40) | ((with_reducible refine gate_callee (f := 5) rfl ?_);refine goesL_ (some 105) rfl rfl Tryz.func5 (by kernel_rfl) rfl #[.bool t169,.string (t170 ++ x6_4),.int .i64 (wrap64 ((wrap64 (-t178)) - (x6_4.size : Int)))] rfl (by (try simp only [List.map_toArray,List.map_cons,List.map_nil]);first | done | rfl | (simp only [List.length_drop,List.length_take];rfl)) ?_;(with_reducible refine (decimal_Make.calls t169 (t170 ++ x6_4) (wrap64 ((wrap64 (-t178)) - (x6_4.size : Int))) t180 t181 t182 t183 _ A43.out).mono ?_);rintro e w45 ⟨rfl,hb⟩;refine ⟨_,rfl,?_⟩;have n0_ := Aside0.mk (blk_below (g := gb167) (o := .cells #[.bool false,.string (⟨#[]⟩ : ByteArray),.int .i64 0] 23 (0,0)) (by (with_reducible repeat (first | refine blk_drewN ?_ _ | refine blk_drew ?_ | refine blk_alloc ?_ _));exact BK167.out) hb);have n1_ := Aside0.mk (below_step (by repeat (first | (with_reducible first | exact HB.out | apply below_alloc | apply pw_below_drewN | apply below_drew1 | refine below_set ?_ GE167.out) | exact HB.out)) hb);clear BK167;clear HB;have BK167 := n0_;have HB := n1_;clear n0_ n1_;(try clear hb);(try clear hb2);(try clear hk);(try clear hi);have hcz46_0 : w45.cell? ⟨gb167,0,none⟩ = some (.bool false) := (blk_cell BK167.out 0).trans rfl;have hcz46_1 : w45.cell? ⟨gb167,1,none⟩ = some (.string (⟨#[]⟩ : ByteArray)) := (blk_cell BK167.out 1).trans rfl;have hcz46_2 : w45.cell? ⟨gb167,2,none⟩ = some (.int .i64 0) := (blk_cell BK167.out 2).trans rfl;have hfz46_0 := blk_frozen BK167.out 0;have hfz46_1 := blk_frozen BK167.out 1;have hfz46_2 := blk_frozen BK167.out 2))
                   refine bodyPost_ret (results_ct rfl _ _ gb167 23 #[.bool t180,.string t181,.int .i64 t182] (0,0) _ rfl (by (with_reducible repeat (first | refine blk_drewN ?_ _ | refine blk_drew ?_ | refine blk_alloc ?_ _));refine blk_put (cs := #[.bool t180,.string t181,.int .i64 0]) ?_ 2 _ rfl;(with_reducible repeat (first | refine blk_drewN ?_ _ | refine blk_drew ?_ | refine blk_alloc ?_ _));refine blk_put (cs := #[.bool t180,.string (⟨#[]⟩ : ByteArray),.int .i64 0]) ?_ 1 _ rfl;(with_reducible repeat (first | refine blk_drewN ?_ _ | refine blk_drew ?_ | refine blk_alloc ?_ _));refine blk_put (cs := #[.bool false,.string (⟨#[]⟩ : ByteArray),.int .i64 0]) ?_ 0 _ rfl;(with_reducible repeat (first | refine blk_drewN ?_ _ | refine blk_drew ?_ | refine blk_alloc ?_ _));exact BK167.out) Tryz.underlying23 rfl (by kernel_rfl)) rfl ?_
                   exact ⟨by first | rfl | (simp [errW_none,errW_some] <;> rfl) | (simp [*,errW_none,errW_some] <;> rfl),by repeat (first | (with_reducible first | exact HB.out | apply below_alloc | apply pw_below_drewN | apply below_drew1 | refine below_set ?_ GE167.out) | exact HB.out)⟩
                  ·rw [if_neg c42] at H
                   exact absurd H (by simp)
                 ·rw [if_neg c41] at H
                  have c41b0 : ((bt x0_4 1) == 45) = false := beq_eq_false_iff_ne.mpr c41
                  have c41b1 : ((bt x0_4 1) != 45) = true := bne_iff_ne.mpr c41
                  by_cases c47 : t170.size + x6_4.size ≤ 9223372036854775807
                  ·rw [if_pos c47] at H
                   have c47b0 := eq_true c47
                   have c47b1 : decide (t170.size + x6_4.size ≤ 9223372036854775807) = true := decide_eq_true c47
                   try have c47b2 : (9223372036854775807 < t170.size + x6_4.size) = False := eq_false (Nat.not_lt.2 c47)
                   replace H := Option.bind_eq_some_iff.mp H
                   obtain ⟨⟨t184,t185,t186,t187⟩,A480,H⟩ := H
                   replace H : (some (t184,t185,t186,t187)) = some (r1,r2,r3,r4) := H
                   have A48 := Aside0.mk A480
                   clear A480
                   simp only [Option.some.injEq,Prod.mk.injEq] at H
                   obtain ⟨rfl,rfl,rfl,rfl⟩ := H
                   go_wp2_with (first | ((with_reducible refine gate_callee (f := 30) rfl ?_);refine goesL_ (some 86) rfl rfl Tryz.func30 (by kernel_rfl) rfl #[.string t176] rfl (by (try simp only [List.map_toArray,List.map_cons,List.map_nil]);first | done | rfl | (simp only [List.length_drop,List.length_take];rfl)) ?_;(with_reducible refine (strconv_Atoi.calls t176 t178 t179 _ A38.out).mono ?_);rintro e w49 ⟨rfl,hb⟩;refine ⟨_,rfl,?_⟩;have n0_ := Aside0.mk (blk_below (g := gb167) (o := .cells #[.bool false,.string (⟨#[]⟩ : ByteArray),.int .i64 0] 23 (0,0)) (by (with_reducible repeat (first | refine blk_drewN ?_ _ | refine blk_drew ?_ | refine blk_alloc ?_ _));exact BK167.out) hb);have n1_ := Aside0.mk (below_step (by repeat (first | (with_reducible first | exact HB.out | apply below_alloc | apply pw_below_drewN | apply below_drew1 | refine below_set ?_ GE167.out) | exact HB.out)) hb);clear BK167;clear HB;have BK167 := n0_;have HB := n1_;clear n0_ n1_;(try clear hb);(try clear hb2);(try clear hk);(try clear hi);(try simp only [errW_none,errW_some]);have p40 : 0 ≤ (1 : Int) := (by omega);have q40 : 1 < x0_4.size := (by have : (1 : Int) < (x0_4.size : Int) := of_decide_eq_true (by first | (with_reducible assumption) | assumption);omega);have hx40 : ∀ h : 1 < x0_4.size,((x0_4[1]'h).toNat : Int) = bt x0_4 1 := bt_at x0_4 1;clear p40;have qi40 : (1 < (x0_4.size : Int)) = True := eq_true (of_decide_eq_true (by first | (with_reducible assumption) | assumption));replace q40 := eq_true q40) | ((with_reducible refine gate_callee (f := 5) rfl ?_);refine goesL_ (some 105) rfl rfl Tryz.func5 (by kernel_rfl) rfl #[.bool t169,.string (t170 ++ x6_4),.int .i64 (wrap64 (t178 - (x6_4.size : Int)))] rfl (by (try simp only [List.map_toArray,List.map_cons,List.map_nil]);first | done | rfl | (simp only [List.length_drop,List.length_take];rfl)) ?_;(with_reducible refine (decimal_Make.calls t169 (t170 ++ x6_4) (wrap64 (t178 - (x6_4.size : Int))) t184 t185 t186 t187 _ A48.out).mono ?_);rintro e w50 ⟨rfl,hb⟩;refine ⟨_,rfl,?_⟩;have n0_ := Aside0.mk (blk_below (g := gb167) (o := .cells #[.bool false,.string (⟨#[]⟩ : ByteArray),.int .i64 0] 23 (0,0)) (by (with_reducible repeat (first | refine blk_drewN ?_ _ | refine blk_drew ?_ | refine blk_alloc ?_ _));exact BK167.out) hb);have n1_ := Aside0.mk (below_step (by repeat (first | (with_reducible first | exact HB.out | apply below_alloc | apply pw_below_drewN | apply below_drew1 | refine below_set ?_ GE167.out) | exact HB.out)) hb);clear BK167;clear HB;have BK167 := n0_;have HB := n1_;clear n0_ n1_;(try clear hb);(try clear hb2);(try clear hk);(try clear hi);have hcz51_0 : w50.cell? ⟨gb167,0,none⟩ = some (.bool false) := (blk_cell BK167.out 0).trans rfl;have hcz51_1 : w50.cell? ⟨gb167,1,none⟩ = some (.string (⟨#[]⟩ : ByteArray)) := (blk_cell BK167.out 1).trans rfl;have hcz51_2 : w50.cell? ⟨gb167,2,none⟩ = some (.int .i64 0) := (blk_cell BK167.out 2).trans rfl;have hfz51_0 := blk_frozen BK167.out 0;have hfz51_1 := blk_frozen BK167.out 1;have hfz51_2 := blk_frozen BK167.out 2))
                   refine bodyPost_ret (results_ct rfl _ _ gb167 23 #[.bool t184,.string t185,.int .i64 t186] (0,0) _ rfl (by (with_reducible repeat (first | refine blk_drewN ?_ _ | refine blk_drew ?_ | refine blk_alloc ?_ _));refine blk_put (cs := #[.bool t184,.string t185,.int .i64 0]) ?_ 2 _ rfl;(with_reducible repeat (first | refine blk_drewN ?_ _ | refine blk_drew ?_ | refine blk_alloc ?_ _));refine blk_put (cs := #[.bool t184,.string (⟨#[]⟩ : ByteArray),.int .i64 0]) ?_ 1 _ rfl;(with_reducible repeat (first | refine blk_drewN ?_ _ | refine blk_drew ?_ | refine blk_alloc ?_ _));refine blk_put (cs := #[.bool false,.string (⟨#[]⟩ : ByteArray),.int .i64 0]) ?_ 0 _ rfl;(with_reducible repeat (first | refine blk_drewN ?_ _ | refine blk_drew ?_ | refine blk_alloc ?_ _));exact BK167.out) Tryz.underlying23 rfl (by kernel_rfl)) rfl ?_
                   exact ⟨by first | rfl | (simp [errW_none,errW_some] <;> rfl) | (simp [*,errW_none,errW_some] <;> rfl),by repeat (first | (with_reducible first | exact HB.out | apply below_alloc | apply pw_below_drewN | apply below_drew1 | refine below_set ?_ GE167.out) | exact HB.out)⟩
                  ·rw [if_neg c47] at H
                   exact absurd H (by simp)
                ·rw [if_neg c39] at H
                 exact absurd H (by simp)
        ·rw [if_neg c21] at H
         exact absurd H (by simp)
       ·replace c20 := Bool.eq_false_iff.mpr c20
        subst c20
        have H1 : (if x0_4.toList = ([] : List UInt8) then (if t170.size + x6_4.size ≤ 9223372036854775807 then ((decimal_Make.f t169 (t170 ++ x6_4) (wrap64 (0 - (x6_4.size : Int)))).bind fun bt188 => (some (bt188.1,bt188.2.1,bt188.2.2.1,bt188.2.2.2))) else (none)) else (some (false,(⟨#[]⟩ : ByteArray),0,3))) = some (r1,r2,r3,r4) := by rw [if_neg (show ¬ (false = true) by decide)] at H;exact H
        clear H
        have H := H1
        clear H1
        by_cases c52 : x0_4.toList = ([] : List UInt8)
        ·rw [if_pos c52] at H
         have c52b0 : (x0_4.toList == ([] : List UInt8)) = true := beq_iff_eq.mpr c52
         have c52b1 : (x0_4.toList != ([] : List UInt8)) = false := bne_eq_false_iff_eq.mpr c52
         clear c52
         by_cases c53 : t170.size + x6_4.size ≤ 9223372036854775807
         ·rw [if_pos c53] at H
          have c53b0 := eq_true c53
          have c53b1 : decide (t170.size + x6_4.size ≤ 9223372036854775807) = true := decide_eq_true c53
          try have c53b2 : (9223372036854775807 < t170.size + x6_4.size) = False := eq_false (Nat.not_lt.2 c53)
          replace H := Option.bind_eq_some_iff.mp H
          obtain ⟨⟨t188,t189,t190,t191⟩,A540,H⟩ := H
          replace H : (some (t188,t189,t190,t191)) = some (r1,r2,r3,r4) := H
          have A54 := Aside0.mk A540
          clear A540
          simp only [Option.some.injEq,Prod.mk.injEq] at H
          obtain ⟨rfl,rfl,rfl,rfl⟩ := H
          have e0_ : wrap64 (0 - (x6_4.size : Int)) = -(x6_4.size : Int) := by unfold wrap64;omega
          rw [e0_] at A54
          clear e0_
          go_wp2_with (first | ((with_reducible refine gate_callee (f := 5) rfl ?_);refine goesL_ (some 105) rfl rfl Tryz.func5 (by kernel_rfl) rfl #[.bool t169,.string (t170 ++ x6_4),.int .i64 (-(x6_4.size : Int))] rfl (by (try simp only [List.map_toArray,List.map_cons,List.map_nil]);first | done | rfl | (simp only [List.length_drop,List.length_take];rfl)) ?_;(with_reducible refine (decimal_Make.calls t169 (t170 ++ x6_4) (-(x6_4.size : Int)) t188 t189 t190 t191 _ A54.out).mono ?_);rintro e w55 ⟨rfl,hb⟩;refine ⟨_,rfl,?_⟩;have n0_ := Aside0.mk (blk_below (g := gb167) (o := .cells #[.bool false,.string (⟨#[]⟩ : ByteArray),.int .i64 0] 23 (0,0)) (by (with_reducible repeat (first | refine blk_drewN ?_ _ | refine blk_drew ?_ | refine blk_alloc ?_ _));exact BK167.out) hb);have n1_ := Aside0.mk (below_step (by repeat (first | (with_reducible first | exact HB.out | apply below_alloc | apply pw_below_drewN | apply below_drew1 | refine below_set ?_ GE167.out) | exact HB.out)) hb);clear BK167;clear HB;have BK167 := n0_;have HB := n1_;clear n0_ n1_;(try clear hb);(try clear hb2);(try clear hk);(try clear hi);have hcz56_0 : w55.cell? ⟨gb167,0,none⟩ = some (.bool false) := (blk_cell BK167.out 0).trans rfl;have hcz56_1 : w55.cell? ⟨gb167,1,none⟩ = some (.string (⟨#[]⟩ : ByteArray)) := (blk_cell BK167.out 1).trans rfl;have hcz56_2 : w55.cell? ⟨gb167,2,none⟩ = some (.int .i64 0) := (blk_cell BK167.out 2).trans rfl;have hfz56_0 := blk_frozen BK167.out 0;have hfz56_1 := blk_frozen BK167.out 1;have hfz56_2 := blk_frozen BK167.out 2))
          refine bodyPost_ret (results_ct rfl _ _ gb167 23 #[.bool t188,.string t189,.int .i64 t190] (0,0) _ rfl (by (with_reducible repeat (first | refine blk_drewN ?_ _ | refine blk_drew ?_ | refine blk_alloc ?_ _));refine blk_put (cs := #[.bool t188,.string t189,.int .i64 0]) ?_ 2 _ rfl;(with_reducible repeat (first | refine blk_drewN ?_ _ | refine blk_drew ?_ | refine blk_alloc ?_ _));refine blk_put (cs := #[.bool t188,.string (⟨#[]⟩ : ByteArray),.int .i64 0]) ?_ 1 _ rfl;(with_reducible repeat (first | refine blk_drewN ?_ _ | refine blk_drew ?_ | refine blk_alloc ?_ _));refine blk_put (cs := #[.bool false,.string (⟨#[]⟩ : ByteArray),.int .i64 0]) ?_ 0 _ rfl;(with_reducible repeat (first | refine blk_drewN ?_ _ | refine blk_drew ?_ | refine blk_alloc ?_ _));exact BK167.out) Tryz.underlying23 rfl (by kernel_rfl)) rfl ?_
          exact ⟨by first | rfl | (simp [errW_none,errW_some] <;> rfl) | (simp [*,errW_none,errW_some] <;> rfl),by repeat (first | (with_reducible first | exact HB.out | apply below_alloc | apply pw_below_drewN | apply below_drew1 | refine below_set ?_ GE167.out) | exact HB.out)⟩
         ·rw [if_neg c53] at H
          exact absurd H (by simp)
        ·rw [if_neg c52] at H
         have c52b0 : (x0_4.toList == ([] : List UInt8)) = false := beq_eq_false_iff_ne.mpr c52
         have c52b1 : (x0_4.toList != ([] : List UInt8)) = true := bne_iff_ne.mpr c52
         simp only [Option.some.injEq,Prod.mk.injEq] at H
         obtain ⟨rfl,rfl,rfl,rfl⟩ := H
         have hcz57_0 : wc.cell? ⟨gb167,0,none⟩ = some (.bool false) := (blk_cell BK167.out 0).trans rfl
         have hcz57_1 : wc.cell? ⟨gb167,1,none⟩ = some (.string (⟨#[]⟩ : ByteArray)) := (blk_cell BK167.out 1).trans rfl
         have hcz57_2 : wc.cell? ⟨gb167,2,none⟩ = some (.int .i64 0) := (blk_cell BK167.out 2).trans rfl
         have hfz57_0 := blk_frozen BK167.out 0
         have hfz57_1 := blk_frozen BK167.out 1
         have hfz57_2 := blk_frozen BK167.out 2
         go_wp2
         refine bodyPost_ret (results_ct rfl _ _ gb167 23 #[.bool false,.string (⟨#[]⟩ : ByteArray),.int .i64 0] (0,0) _ rfl (by (with_reducible repeat (first | refine blk_drewN ?_ _ | refine blk_drew ?_ | refine blk_alloc ?_ _));refine blk_put (cs := #[.bool false,.string (⟨#[]⟩ : ByteArray),.int .i64 0]) ?_ 2 _ rfl;(with_reducible repeat (first | refine blk_drewN ?_ _ | refine blk_drew ?_ | refine blk_alloc ?_ _));refine blk_put (cs := #[.bool false,.string (⟨#[]⟩ : ByteArray),.int .i64 0]) ?_ 1 _ rfl;(with_reducible repeat (first | refine blk_drewN ?_ _ | refine blk_drew ?_ | refine blk_alloc ?_ _));refine blk_put (cs := #[.bool false,.string (⟨#[]⟩ : ByteArray),.int .i64 0]) ?_ 0 _ rfl;(with_reducible repeat (first | refine blk_drewN ?_ _ | refine blk_drew ?_ | refine blk_alloc ?_ _));exact BK167.out) Tryz.underlying23 rfl (by kernel_rfl)) rfl ?_
         exact ⟨by first | rfl | (simp [errW_none,errW_some] <;> rfl) | (simp [*,errW_none,errW_some] <;> rfl),by repeat (first | (with_reducible first | exact HB.out | apply below_alloc | apply pw_below_drewN | apply below_drew1 | refine below_set ?_ GE167.out) | exact HB.out)⟩
   ·rw [if_neg c11] at H
    exact absurd H (by simp)

end Go.Proofs.YtneeeaafhjaooaaGreatDoor.P
