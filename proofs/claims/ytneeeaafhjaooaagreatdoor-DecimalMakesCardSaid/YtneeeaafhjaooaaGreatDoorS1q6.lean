-- Printed by a program of this session (wip/tools) over the kit's print: not trusted, Lean checks it.
import Derived.Test.YtneeeaafhjaooaaGreatDoorS0q6
import Derived.Test.YtneeeaafhjaooaaGreatDoorProg
import Derived.Test.YtneeeaafhjaooaaGreatDoorP0q6
import Derived.Test.YtneeeaafhjaooaaGreatDoorElibq6
import Derived.Test.YtneeeaafhjaooaaGreatDoorP2q6
import Derived.Test.YtneeeaafhjaooaaGreatDoorP3q6
import Derived.Test.YtneeeaafhjaooaaGreatDoorP4q6
import Derived.Test.YtneeeaafhjaooaaGreatDoorP5q6
import Derived.Test.YtneeeaafhjaooaaGreatDoorP6q6
import Derived.Test.YtneeeaafhjaooaaGreatDoorP7q6
import Derived.Test.YtneeeaafhjaooaaGreatDoorLibsq6
namespace Go.Proofs.YtneeeaafhjaooaaGreatDoor.S
set_option linter.all false
open Go.Proofs.YtneeeaafhjaooaaGreatDoor.P
open Go.RowKit Go.Proofs.YtneeeaafhjaooaaGreatDoorW.PrintWords Go.Proofs.YtneeeaafhjaooaaGreatDoorW.PrintLast Go.Proofs.YtneeeaafhjaooaaGreatDoorW.PrintMore
attribute [local go_sem] max2_int min2_int max_two min_two max_three min_three max_four min_four   -- for this text's walks alone
attribute [local go_sem] cell_after
set_option linter.unusedVariables false
set_option linter.unusedSimpArgs false

/-! ### tabardlaw7_shown: function 4 -/
def tabardlaw7_shown.T5 : Bool × List (List Nat × List Nat) := (true,[([],[]),([],[]),([0,1],[0,1]),([2,1],[2]),([3],[3]),([4,3],[3,4]),([3,5],[3,5]),([6,3],[6]),([7],[7]),([7,7],[7]),([8,9,7],[7,8,9]),([7,10],[7,10]),([11,9],[11]),([12],[12]),([13,12],[12,13]),([12,14],[12,14]),([15,12],[15]),([16],[16]),([17,16],[16,17]),([16,18],[16,18]),([19,16],[19]),([20],[20]),([21,20],[20,21]),([20,22],[20,22])])
def tabardlaw7_shown.B5 : List Nat := [0,0,3,7,15,31,63,127,255,255,1023,2047,4095,8191,16383,32767,65535,131071,262143,524287,1048575,2097151,4194303,8388607]
theorem tabardlaw7_shown.tab5 : rtab .any (opsOf Tryz.f4 5) = tabardlaw7_shown.T5 := by kernel_rfl
theorem tabardlaw7_shown.bits5 : waitsOk tabardlaw7_shown.T5.2 tabardlaw7_shown.B5 = true := by kernel_rfl
def tabardlaw7_shown.T11 : Bool × List (List Nat × List Nat) := (true,[([],[]),([],[]),([0,1],[0,1]),([2,1],[2]),([3],[3]),([4,3],[3,4]),([3,5],[3,5]),([6,3],[6]),([7],[7]),([7,7],[7]),([8,9,7],[7,8,9]),([7,10],[7,10]),([11,9],[11]),([12],[12]),([13,12],[12,13]),([12,14],[12,14]),([15,12],[15]),([16],[16]),([16,16],[16]),([17,18,16],[16,17,18]),([16,19],[16,19]),([20,18],[20]),([21],[21]),([22,21],[21,22]),([21,23],[21,23]),([24,21],[24]),([25],[25]),([25,25],[25]),([26,27,25],[25,26,27]),([25,28],[25,28]),([29,27],[29]),([30],[30]),([31,30],[30,31]),([30,32],[30,32])])
def tabardlaw7_shown.B11 : List Nat := [0,0,3,7,15,31,63,127,255,255,1023,2047,4095,8191,16383,32767,65535,131071,131071,524287,1048575,2097151,4194303,8388607,16777215,33554431,67108863,67108863,268435455,536870911,1073741823,2147483647,4294967295,8589934591]
theorem tabardlaw7_shown.tab11 : rtab .any (opsOf Tryz.f4 11) = tabardlaw7_shown.T11 := by kernel_rfl
theorem tabardlaw7_shown.bits11 : waitsOk tabardlaw7_shown.T11.2 tabardlaw7_shown.B11 = true := by kernel_rfl
def tabardlaw7_shown.T17 : Bool × List (List Nat × List Nat) := (true,[([],[]),([],[]),([0,1],[0,1]),([2,1],[2]),([3],[3]),([4,3],[3,4]),([3,5],[3,5]),([6,3],[6]),([7],[7]),([7,7],[7]),([8,9,7],[7,8,9]),([7,10],[7,10]),([11,9],[11]),([12],[12]),([13,12],[12,13]),([12,14],[12,14]),([15,12],[15]),([16],[16]),([16,16],[16]),([17,18,16],[16,17,18]),([16,19],[16,19]),([20,18],[20]),([21],[21]),([22,21],[21,22]),([21,23],[21,23]),([24,21],[24]),([25],[25]),([25,25],[25]),([26,27,25],[25,26,27]),([25,28],[25,28]),([29,27],[29]),([30],[30]),([31,30],[30,31]),([30,32],[30,32])])
def tabardlaw7_shown.B17 : List Nat := [0,0,3,7,15,31,63,127,255,255,1023,2047,4095,8191,16383,32767,65535,131071,131071,524287,1048575,2097151,4194303,8388607,16777215,33554431,67108863,67108863,268435455,536870911,1073741823,2147483647,4294967295,8589934591]
theorem tabardlaw7_shown.tab17 : rtab .any (opsOf Tryz.f4 17) = tabardlaw7_shown.T17 := by kernel_rfl
theorem tabardlaw7_shown.bits17 : waitsOk tabardlaw7_shown.T17.2 tabardlaw7_shown.B17 = true := by kernel_rfl
def tabardlaw7_shown.T25 : Bool × List (List Nat × List Nat) := (true,[([],[]),([],[]),([0,1],[0,1]),([2,1],[2]),([3],[3]),([4,3],[3,4]),([3,5],[3,5]),([6,3],[6]),([7],[7]),([7,7],[7]),([8,9,7],[7,8,9]),([7,10],[7,10]),([11,9],[11]),([12],[12]),([13,12],[12,13]),([12,14],[12,14]),([15,12],[15]),([16],[16]),([16,16],[16]),([17,18,16],[16,17,18]),([16,19],[16,19]),([20,18],[20]),([21],[21]),([22,21],[21,22]),([21,23],[21,23]),([24,21],[24]),([25],[25]),([26,25],[25,26]),([25,27],[25,27]),([28,25],[28]),([29],[29]),([30,29],[29,30]),([29,31],[29,31]),([32,29],[32]),([33],[33]),([34,33],[33,34]),([33,35],[33,35])])
def tabardlaw7_shown.B25 : List Nat := [0,0,3,7,15,31,63,127,255,255,1023,2047,4095,8191,16383,32767,65535,131071,131071,524287,1048575,2097151,4194303,8388607,16777215,33554431,67108863,134217727,268435455,536870911,1073741823,2147483647,4294967295,8589934591,17179869183,34359738367,68719476735]
theorem tabardlaw7_shown.tab25 : rtab .any (opsOf Tryz.f4 25) = tabardlaw7_shown.T25 := by kernel_rfl
theorem tabardlaw7_shown.bits25 : waitsOk tabardlaw7_shown.T25.2 tabardlaw7_shown.B25 = true := by kernel_rfl
set_option maxHeartbeats 8000000 in
set_option maxRecDepth 100000 in
theorem tabardlaw7_shown.calls (k : Nat)  (r : Bool) (w : World) (hT : Tabs w) (h : (some true : Option Bool) = some r)
  (A10 : decimal_Make.f false (⟨#[48,48,49,50,48]⟩ : ByteArray) 3 = some (false,(⟨#[49,50]⟩ : ByteArray),4,0))
  (A20 : decimal_Make.f true (⟨#[48,48,48]⟩ : ByteArray) 7 = some (true,(⟨#[]⟩ : ByteArray),0,0))
  (A30 : decimal_Make.f false (⟨#[49,120]⟩ : ByteArray) 0 = some (false,(⟨#[]⟩ : ByteArray),0,3))
  (A40 : decimal_Make.f false (⟨#[49]⟩ : ByteArray) 100001 = some (false,(⟨#[]⟩ : ByteArray),0,2))
  (A50 : tabardlaw7_dec.f false (⟨#[49,50]⟩ : ByteArray) 4 = some (false,(⟨#[49,50]⟩ : ByteArray),4))
  (A60 : tabardlaw7_dec.f true (⟨#[]⟩ : ByteArray) 0 = some (true,(⟨#[]⟩ : ByteArray),0))
  (A70 : tabardlaw7_dec.f false (⟨#[49,50,51,52,53]⟩ : ByteArray) 0 = some (false,(⟨#[49,50,51,52,53]⟩ : ByteArray),0))
  (A80 : decimal_Sig.f k false (⟨#[49,50,51,52,53]⟩ : ByteArray) 0 3 0 = some (false,(⟨#[49,50,51]⟩ : ByteArray),2,0))
  (A90 : tabardlaw7_dec.f false (⟨#[49,50,51,53]⟩ : ByteArray) 1 = some (false,(⟨#[49,50,51,53]⟩ : ByteArray),1))
  (A100 : decimal_Sig.f k false (⟨#[49,50,51,53]⟩ : ByteArray) 1 3 0 = some (false,(⟨#[49,50,52]⟩ : ByteArray),2,0))
  (A110 : tabardlaw7_dec.f true (⟨#[49,50,51,53]⟩ : ByteArray) 1 = some (true,(⟨#[49,50,51,53]⟩ : ByteArray),1))
  (A120 : decimal_Sig.f k true (⟨#[49,50,51,53]⟩ : ByteArray) 1 3 4 = some (true,(⟨#[49,50,52]⟩ : ByteArray),2,0))
  (A130 : tabardlaw7_dec.f false (⟨#[57,57,57]⟩ : ByteArray) (-2) = some (false,(⟨#[57,57,57]⟩ : ByteArray),(-2)))
  (A140 : decimal_Sig.f k false (⟨#[57,57,57]⟩ : ByteArray) (-2) 1 3 = some (false,(⟨#[49]⟩ : ByteArray),1,0))
  (A150 : tabardlaw7_dec.f false (⟨#[49,50,51]⟩ : ByteArray) 2 = some (false,(⟨#[49,50,51]⟩ : ByteArray),2))
  (A160 : tabardlaw7_dec.f false (⟨#[49,50,52]⟩ : ByteArray) 2 = some (false,(⟨#[49,50,52]⟩ : ByteArray),2))
  (A170 : tabardlaw7_dec.f true (⟨#[49,50,52]⟩ : ByteArray) 2 = some (true,(⟨#[49,50,52]⟩ : ByteArray),2))
  (A180 : tabardlaw7_dec.f false (⟨#[49]⟩ : ByteArray) 1 = some (false,(⟨#[49]⟩ : ByteArray),1))
  (A190 : tabardlaw7_dec.f false (⟨#[50,53]⟩ : ByteArray) (-1) = some (false,(⟨#[50,53]⟩ : ByteArray),(-1)))
  (A200 : decimal_Place.f k false (⟨#[50,53]⟩ : ByteArray) (-1) 0 0 = some (false,(⟨#[50]⟩ : ByteArray),0,0))
  (A210 : tabardlaw7_dec.f true (⟨#[52]⟩ : ByteArray) (-1) = some (true,(⟨#[52]⟩ : ByteArray),(-1)))
  (A220 : decimal_Place.f k true (⟨#[52]⟩ : ByteArray) (-1) 0 1 = some (true,(⟨#[]⟩ : ByteArray),0,0))
  (A230 : tabardlaw7_dec.f false (⟨#[49,50,53]⟩ : ByteArray) 1 = some (false,(⟨#[49,50,53]⟩ : ByteArray),1))
  (A240 : decimal_Place.f k false (⟨#[49,50,53]⟩ : ByteArray) 1 (-2) 0 = some (false,(⟨#[49,50]⟩ : ByteArray),2,0))
  (A250 : tabardlaw7_dec.f false (⟨#[49]⟩ : ByteArray) (-3) = some (false,(⟨#[49]⟩ : ByteArray),(-3)))
  (A260 : decimal_Place.f k false (⟨#[49]⟩ : ByteArray) (-3) 2 5 = some (false,(⟨#[49]⟩ : ByteArray),(-2),0))
  (A270 : tabardlaw7_dec.f false (⟨#[50]⟩ : ByteArray) 0 = some (false,(⟨#[50]⟩ : ByteArray),0))
  (A280 : tabardlaw7_dec.f true (⟨#[]⟩ : ByteArray) 0 = some (true,(⟨#[]⟩ : ByteArray),0))
  (A290 : tabardlaw7_dec.f false (⟨#[49,50]⟩ : ByteArray) 2 = some (false,(⟨#[49,50]⟩ : ByteArray),2))
  (A300 : tabardlaw7_dec.f false (⟨#[49]⟩ : ByteArray) (-2) = some (false,(⟨#[49]⟩ : ByteArray),(-2)))
  (A310 : decimal_Parse.f k (⟨#[45,49,50,46,53,48,101,45,51]⟩ : ByteArray) = some (true,(⟨#[49,50,53]⟩ : ByteArray),(-4),0))
  (A320 : decimal_Parse.f k (⟨#[46,53]⟩ : ByteArray) = some (false,(⟨#[53]⟩ : ByteArray),(-1),0))
  (A330 : decimal_Parse.f k (⟨#[53,46]⟩ : ByteArray) = some (false,(⟨#[53]⟩ : ByteArray),0,0))
  (A340 : decimal_Parse.f k (⟨#[46]⟩ : ByteArray) = some (false,(⟨#[]⟩ : ByteArray),0,3))
  (A350 : decimal_Parse.f k (⟨#[49,101]⟩ : ByteArray) = some (false,(⟨#[]⟩ : ByteArray),0,3))
  (A360 : decimal_Parse.f k (⟨#[43,49]⟩ : ByteArray) = some (false,(⟨#[]⟩ : ByteArray),0,3))
  (A370 : tabardlaw7_dec.f true (⟨#[49,50,53]⟩ : ByteArray) (-4) = some (true,(⟨#[49,50,53]⟩ : ByteArray),(-4)))
  (A380 : tabardlaw7_dec.f false (⟨#[53]⟩ : ByteArray) (-1) = some (false,(⟨#[53]⟩ : ByteArray),(-1)))
  (A390 : tabardlaw7_dec.f false (⟨#[53]⟩ : ByteArray) 0 = some (false,(⟨#[53]⟩ : ByteArray),0))
  (A400 : tabardlaw7_dec.f false (⟨#[49,50,51]⟩ : ByteArray) 0 = some (false,(⟨#[49,50,51]⟩ : ByteArray),0))
  (A410 : decimal_Print.f k false (⟨#[49,50,51]⟩ : ByteArray) 0 = some (⟨#[49,50,51]⟩ : ByteArray))
  (A420 : tabardlaw7_dec.f false (⟨#[49,50,51]⟩ : ByteArray) (-1) = some (false,(⟨#[49,50,51]⟩ : ByteArray),(-1)))
  (A430 : decimal_Print.f k false (⟨#[49,50,51]⟩ : ByteArray) (-1) = some (⟨#[49,50,46,51]⟩ : ByteArray))
  (A440 : tabardlaw7_dec.f false (⟨#[49,50,51]⟩ : ByteArray) (-3) = some (false,(⟨#[49,50,51]⟩ : ByteArray),(-3)))
  (A450 : decimal_Print.f k false (⟨#[49,50,51]⟩ : ByteArray) (-3) = some (⟨#[48,46,49,50,51]⟩ : ByteArray))
  (A460 : tabardlaw7_dec.f false (⟨#[49,50,51]⟩ : ByteArray) (-8) = some (false,(⟨#[49,50,51]⟩ : ByteArray),(-8)))
  (A470 : decimal_Print.f k false (⟨#[49,50,51]⟩ : ByteArray) (-8) = some (⟨#[48,46,48,48,48,48,48,49,50,51]⟩ : ByteArray))
  (A480 : tabardlaw7_dec.f false (⟨#[49,50,51]⟩ : ByteArray) (-9) = some (false,(⟨#[49,50,51]⟩ : ByteArray),(-9)))
  (A490 : decimal_Print.f k false (⟨#[49,50,51]⟩ : ByteArray) (-9) = some (⟨#[49,46,50,51,101,45,55]⟩ : ByteArray))
  (A500 : tabardlaw7_dec.f false (⟨#[49,50,51]⟩ : ByteArray) 18 = some (false,(⟨#[49,50,51]⟩ : ByteArray),18))
  (A510 : decimal_Print.f k false (⟨#[49,50,51]⟩ : ByteArray) 18 = some (⟨#[49,50,51,48,48,48,48,48,48,48,48,48,48,48,48,48,48,48,48,48,48]⟩ : ByteArray))
  (A520 : tabardlaw7_dec.f false (⟨#[49,50,51]⟩ : ByteArray) 19 = some (false,(⟨#[49,50,51]⟩ : ByteArray),19))
  (A530 : decimal_Print.f k false (⟨#[49,50,51]⟩ : ByteArray) 19 = some (⟨#[49,46,50,51,101,43,50,49]⟩ : ByteArray)) :
  Calls Tryz.prog 4 #[] w fun e w' => e = .returned (.bool r) ∧ Below w.heap.size w w' := by
 have hu23 := Tryz.underlying23
 have HT := Aside0.mk hT
 clear hT
 have HB := Aside0.mk (Below.refl w.heap.size w)
 have H := h
 clear h
 have A1 := Aside0.mk A10
 clear A10
 have A2 := Aside0.mk A20
 clear A20
 have A3 := Aside0.mk A30
 clear A30
 have A4 := Aside0.mk A40
 clear A40
 have A5 := Aside0.mk A50
 clear A50
 have A6 := Aside0.mk A60
 clear A60
 have A7 := Aside0.mk A70
 clear A70
 have A8 := Aside0.mk A80
 clear A80
 have A9 := Aside0.mk A90
 clear A90
 have A10 := Aside0.mk A100
 clear A100
 have A11 := Aside0.mk A110
 clear A110
 have A12 := Aside0.mk A120
 clear A120
 have A13 := Aside0.mk A130
 clear A130
 have A14 := Aside0.mk A140
 clear A140
 have A15 := Aside0.mk A150
 clear A150
 have A16 := Aside0.mk A160
 clear A160
 have A17 := Aside0.mk A170
 clear A170
 have A18 := Aside0.mk A180
 clear A180
 have A19 := Aside0.mk A190
 clear A190
 have A20 := Aside0.mk A200
 clear A200
 have A21 := Aside0.mk A210
 clear A210
 have A22 := Aside0.mk A220
 clear A220
 have A23 := Aside0.mk A230
 clear A230
 have A24 := Aside0.mk A240
 clear A240
 have A25 := Aside0.mk A250
 clear A250
 have A26 := Aside0.mk A260
 clear A260
 have A27 := Aside0.mk A270
 clear A270
 have A28 := Aside0.mk A280
 clear A280
 have A29 := Aside0.mk A290
 clear A290
 have A30 := Aside0.mk A300
 clear A300
 have A31 := Aside0.mk A310
 clear A310
 have A32 := Aside0.mk A320
 clear A320
 have A33 := Aside0.mk A330
 clear A330
 have A34 := Aside0.mk A340
 clear A340
 have A35 := Aside0.mk A350
 clear A350
 have A36 := Aside0.mk A360
 clear A360
 have A37 := Aside0.mk A370
 clear A370
 have A38 := Aside0.mk A380
 clear A380
 have A39 := Aside0.mk A390
 clear A390
 have A40 := Aside0.mk A400
 clear A400
 have A41 := Aside0.mk A410
 clear A410
 have A42 := Aside0.mk A420
 clear A420
 have A43 := Aside0.mk A430
 clear A430
 have A44 := Aside0.mk A440
 clear A440
 have A45 := Aside0.mk A450
 clear A450
 have A46 := Aside0.mk A460
 clear A460
 have A47 := Aside0.mk A470
 clear A470
 have A48 := Aside0.mk A480
 clear A480
 have A49 := Aside0.mk A490
 clear A490
 have A50 := Aside0.mk A500
 clear A500
 have A51 := Aside0.mk A510
 clear A510
 have A52 := Aside0.mk A520
 clear A520
 have A53 := Aside0.mk A530
 clear A530
 obtain rfl := Option.some.inj H
 go_enter Tryz.func4,Tryz.ntmps4
 try go_wp2_with (first | ((with_reducible refine gate_callee (f := 5) rfl ?_);refine goesL_ (some 39) rfl rfl Tryz.func5 (by kernel_rfl) rfl #[.bool false,.string (⟨#[48,48,49,50,48]⟩ : ByteArray),.int .i64 3] rfl (by (try simp only [List.map_toArray,List.map_cons,List.map_nil]);first | done | rfl | (simp only [List.length_drop,List.length_take];rfl)) ?_;(with_reducible refine (decimal_Make.calls false (⟨#[48,48,49,50,48]⟩ : ByteArray) 3 false (⟨#[49,50]⟩ : ByteArray) 4 0 _ A1.out).mono ?_);rintro e w54 ⟨rfl,hb⟩;refine ⟨_,rfl,?_⟩;have n0_ := Aside0.mk (below_step (by repeat (first | (with_reducible first | exact HB.out | apply below_alloc | apply pw_below_drewN | apply below_drew1) | exact HB.out)) hb);clear HB;have HB := n0_;clear n0_;(try clear hb);(try clear hb2);(try clear hk);(try clear hi)) | ((with_reducible refine gate_dst (N := 1) rfl ?_);refine box_event ?hg (N := 1) ?hd (cs := #[.bool false,.string (⟨#[]⟩ : ByteArray),.int .i64 0]) (t := 23) ?hr ?_;(case hd => rfl);(case hg => rfl);(case hr => first | (go_simp;done) | (go_simp;rfl));intro gb105 hg w55 hbox hb;have n0_ := Aside0.mk (below_step (by repeat (first | (with_reducible first | exact HB.out | apply below_alloc | apply pw_below_drewN | apply below_drew1) | exact HB.out)) hb);have n1_ := Aside0.mk (hbox);have n2_ := Aside0.mk ((by rw [hg];exact (below_size (by repeat (first | (with_reducible first | exact HB.out | apply below_alloc | apply pw_below_drewN | apply below_drew1) | exact HB.out))) : w.heap.size ≤ gb105));have n3_ := Aside0.mk ((by rw [hg];exact (below_size (by repeat (first | (with_reducible first | exact HB.out | apply below_alloc | apply pw_below_drewN | apply below_drew1) | exact HB.out))) : w.heap.size ≤ gb105));clear HB;have HB := n0_;have BK105 := n1_;have GW105 := n2_;have GE105 := n3_;clear n0_ n1_ n2_ n3_;clear hb hbox hg;have hcz56_0 : w55.cell? ⟨gb105,0,none⟩ = some (.bool false) := (blk_cell BK105.out 0).trans rfl;have hcz56_1 : w55.cell? ⟨gb105,1,none⟩ = some (.string (⟨#[]⟩ : ByteArray)) := (blk_cell BK105.out 1).trans rfl;have hcz56_2 : w55.cell? ⟨gb105,2,none⟩ = some (.int .i64 0) := (blk_cell BK105.out 2).trans rfl;have hfz56_0 := blk_frozen BK105.out 0;have hfz56_1 := blk_frozen BK105.out 1;have hfz56_2 := blk_frozen BK105.out 2) | ((with_reducible refine gate_callee (f := 5) rfl ?_);refine goesL_ (some 43) rfl rfl Tryz.func5 (by kernel_rfl) rfl #[.bool true,.string (⟨#[48,48,48]⟩ : ByteArray),.int .i64 7] rfl (by (try simp only [List.map_toArray,List.map_cons,List.map_nil]);first | done | rfl | (simp only [List.length_drop,List.length_take];rfl)) ?_;(with_reducible refine (decimal_Make.calls true (⟨#[48,48,48]⟩ : ByteArray) 7 true (⟨#[]⟩ : ByteArray) 0 0 _ A2.out).mono ?_);rintro e w57 ⟨rfl,hb⟩;refine ⟨_,rfl,?_⟩;have n0_ := Aside0.mk (blk_below (g := gb105) (o := .cells #[.bool false,.string (⟨#[49,50]⟩ : ByteArray),.int .i64 4] 23 (0,0)) (by (with_reducible repeat (first | refine blk_drewN ?_ _ | refine blk_drew ?_ | refine blk_alloc ?_ _));refine blk_put (cs := #[.bool false,.string (⟨#[49,50]⟩ : ByteArray),.int .i64 0]) ?_ 2 _ rfl;(with_reducible repeat (first | refine blk_drewN ?_ _ | refine blk_drew ?_ | refine blk_alloc ?_ _));refine blk_put (cs := #[.bool false,.string (⟨#[]⟩ : ByteArray),.int .i64 0]) ?_ 1 _ rfl;(with_reducible repeat (first | refine blk_drewN ?_ _ | refine blk_drew ?_ | refine blk_alloc ?_ _));refine blk_put (cs := #[.bool false,.string (⟨#[]⟩ : ByteArray),.int .i64 0]) ?_ 0 _ rfl;(with_reducible repeat (first | refine blk_drewN ?_ _ | refine blk_drew ?_ | refine blk_alloc ?_ _));exact BK105.out) hb);have n1_ := Aside0.mk (below_step (by repeat (first | (with_reducible first | exact HB.out | apply below_alloc | apply pw_below_drewN | apply below_drew1 | refine below_set ?_ GE105.out) | exact HB.out)) hb);clear BK105;clear HB;have BK105 := n0_;have HB := n1_;clear n0_ n1_;(try clear hb);(try clear hb2);(try clear hk);(try clear hi)) | ((with_reducible refine gate_dst (N := 3) rfl ?_);refine box_event ?hg (N := 3) ?hd (cs := #[.bool false,.string (⟨#[]⟩ : ByteArray),.int .i64 0]) (t := 23) ?hr ?_;(case hd => rfl);(case hg => rfl);(case hr => first | (go_simp;done) | (go_simp;rfl));intro gb110 hg w58 hbox hb;have n0_ := Aside0.mk (blk_below (g := gb105) (o := .cells #[.bool false,.string (⟨#[49,50]⟩ : ByteArray),.int .i64 4] 23 (0,0)) (by (with_reducible repeat (first | refine blk_drewN ?_ _ | refine blk_drew ?_ | refine blk_alloc ?_ _));exact BK105.out) hb);have n1_ := Aside0.mk (below_step (by repeat (first | (with_reducible first | exact HB.out | apply below_alloc | apply pw_below_drewN | apply below_drew1 | refine below_set ?_ GE105.out) | exact HB.out)) hb);have n2_ := Aside0.mk (hbox);have n3_ := Aside0.mk ((by rw [hg];exact (below_size (by repeat (first | (with_reducible first | exact HB.out | apply below_alloc | apply pw_below_drewN | apply below_drew1 | refine below_set ?_ GE105.out) | exact HB.out))) : w.heap.size ≤ gb110));have n4_ := Aside0.mk ((by rw [hg];exact (below_size (by repeat (first | (with_reducible first | exact HB.out | apply below_alloc | apply pw_below_drewN | apply below_drew1 | refine below_set ?_ GE105.out) | exact HB.out))) : w.heap.size ≤ gb110));have n5_ := Aside0.mk ((by rw [hg];exact Nat.ne_of_lt (blk_lt (g := gb105) (o := .cells #[.bool false,.string (⟨#[49,50]⟩ : ByteArray),.int .i64 4] 23 (0,0)) (by (with_reducible repeat (first | refine blk_drewN ?_ _ | refine blk_drew ?_ | refine blk_alloc ?_ _));exact BK105.out)) : gb105 ≠ gb110));have n6_ := Aside0.mk ((by rw [hg];exact Nat.ne_of_gt (blk_lt (g := gb105) (o := .cells #[.bool false,.string (⟨#[49,50]⟩ : ByteArray),.int .i64 4] 23 (0,0)) (by (with_reducible repeat (first | refine blk_drewN ?_ _ | refine blk_drew ?_ | refine blk_alloc ?_ _));exact BK105.out)) : gb110 ≠ gb105));clear BK105;clear HB;have BK105 := n0_;have HB := n1_;have BK110 := n2_;have GW110 := n3_;have GE110 := n4_;have NB105_110 := n5_;have NB110_105 := n6_;clear n0_ n1_ n2_ n3_ n4_ n5_ n6_;clear hb hbox hg;have hnb59 := NB110_105.out;have hnc59 := NB105_110.out;have hcz60_0 : w58.cell? ⟨gb110,0,none⟩ = some (.bool false) := (blk_cell BK110.out 0).trans rfl;have hcz60_1 : w58.cell? ⟨gb110,1,none⟩ = some (.string (⟨#[]⟩ : ByteArray)) := (blk_cell BK110.out 1).trans rfl;have hcz60_2 : w58.cell? ⟨gb110,2,none⟩ = some (.int .i64 0) := (blk_cell BK110.out 2).trans rfl;have hfz60_0 := blk_frozen BK110.out 0;have hfz60_1 := blk_frozen BK110.out 1;have hfz60_2 := blk_frozen BK110.out 2) | ((with_reducible refine gate_callee (f := 5) rfl ?_);refine goesL_ (some 47) rfl rfl Tryz.func5 (by kernel_rfl) rfl #[.bool false,.string (⟨#[49,120]⟩ : ByteArray),.int .i64 0] rfl (by (try simp only [List.map_toArray,List.map_cons,List.map_nil]);first | done | rfl | (simp only [List.length_drop,List.length_take];rfl)) ?_;(with_reducible refine (decimal_Make.calls false (⟨#[49,120]⟩ : ByteArray) 0 false (⟨#[]⟩ : ByteArray) 0 3 _ A3.out).mono ?_);rintro e w61 ⟨rfl,hb⟩;refine ⟨_,rfl,?_⟩;have n0_ := Aside0.mk (blk_below (g := gb105) (o := .cells #[.bool false,.string (⟨#[49,50]⟩ : ByteArray),.int .i64 4] 23 (0,0)) (by (with_reducible repeat (first | refine blk_drewN ?_ _ | refine blk_drew ?_ | refine blk_alloc ?_ _));refine blk_far ?_ NB105_110.out _;(with_reducible repeat (first | refine blk_drewN ?_ _ | refine blk_drew ?_ | refine blk_alloc ?_ _));refine blk_far ?_ NB105_110.out _;(with_reducible repeat (first | refine blk_drewN ?_ _ | refine blk_drew ?_ | refine blk_alloc ?_ _));refine blk_far ?_ NB105_110.out _;(with_reducible repeat (first | refine blk_drewN ?_ _ | refine blk_drew ?_ | refine blk_alloc ?_ _));exact BK105.out) hb);have n1_ := Aside0.mk (blk_below (g := gb110) (o := .cells #[.bool true,.string (⟨#[]⟩ : ByteArray),.int .i64 0] 23 (0,0)) (by (with_reducible repeat (first | refine blk_drewN ?_ _ | refine blk_drew ?_ | refine blk_alloc ?_ _));refine blk_put (cs := #[.bool true,.string (⟨#[]⟩ : ByteArray),.int .i64 0]) ?_ 2 _ rfl;(with_reducible repeat (first | refine blk_drewN ?_ _ | refine blk_drew ?_ | refine blk_alloc ?_ _));refine blk_put (cs := #[.bool true,.string (⟨#[]⟩ : ByteArray),.int .i64 0]) ?_ 1 _ rfl;(with_reducible repeat (first | refine blk_drewN ?_ _ | refine blk_drew ?_ | refine blk_alloc ?_ _));refine blk_put (cs := #[.bool false,.string (⟨#[]⟩ : ByteArray),.int .i64 0]) ?_ 0 _ rfl;(with_reducible repeat (first | refine blk_drewN ?_ _ | refine blk_drew ?_ | refine blk_alloc ?_ _));exact BK110.out) hb);have n2_ := Aside0.mk (below_step (by repeat (first | (with_reducible first | exact HB.out | apply below_alloc | apply pw_below_drewN | apply below_drew1 | refine below_set ?_ GE105.out | refine below_set ?_ GE110.out) | exact HB.out)) hb);clear BK105;clear BK110;clear HB;have BK105 := n0_;have BK110 := n1_;have HB := n2_;clear n0_ n1_ n2_;(try clear hb);(try clear hb2);(try clear hk);(try clear hi)) | ((with_reducible refine gate_dst (N := 5) rfl ?_);refine box_event ?hg (N := 5) ?hd (cs := #[.bool false,.string (⟨#[]⟩ : ByteArray),.int .i64 0]) (t := 23) ?hr ?_;(case hd => rfl);(case hg => rfl);(case hr => first | (go_simp;done) | (go_simp;rfl));intro gb115 hg w62 hbox hb;have n0_ := Aside0.mk (blk_below (g := gb105) (o := .cells #[.bool false,.string (⟨#[49,50]⟩ : ByteArray),.int .i64 4] 23 (0,0)) (by (with_reducible repeat (first | refine blk_drewN ?_ _ | refine blk_drew ?_ | refine blk_alloc ?_ _));exact BK105.out) hb);have n1_ := Aside0.mk (blk_below (g := gb110) (o := .cells #[.bool true,.string (⟨#[]⟩ : ByteArray),.int .i64 0] 23 (0,0)) (by (with_reducible repeat (first | refine blk_drewN ?_ _ | refine blk_drew ?_ | refine blk_alloc ?_ _));exact BK110.out) hb);have n2_ := Aside0.mk (below_step (by repeat (first | (with_reducible first | exact HB.out | apply below_alloc | apply pw_below_drewN | apply below_drew1 | refine below_set ?_ GE105.out | refine below_set ?_ GE110.out) | exact HB.out)) hb);have n3_ := Aside0.mk (hbox);have n4_ := Aside0.mk ((by rw [hg];exact (below_size (by repeat (first | (with_reducible first | exact HB.out | apply below_alloc | apply pw_below_drewN | apply below_drew1 | refine below_set ?_ GE105.out | refine below_set ?_ GE110.out) | exact HB.out))) : w.heap.size ≤ gb115));have n5_ := Aside0.mk ((by rw [hg];exact (below_size (by repeat (first | (with_reducible first | exact HB.out | apply below_alloc | apply pw_below_drewN | apply below_drew1 | refine below_set ?_ GE105.out | refine below_set ?_ GE110.out) | exact HB.out))) : w.heap.size ≤ gb115));have n6_ := Aside0.mk ((by rw [hg];exact Nat.ne_of_lt (blk_lt (g := gb105) (o := .cells #[.bool false,.string (⟨#[49,50]⟩ : ByteArray),.int .i64 4] 23 (0,0)) (by (with_reducible repeat (first | refine blk_drewN ?_ _ | refine blk_drew ?_ | refine blk_alloc ?_ _));exact BK105.out)) : gb105 ≠ gb115));have n7_ := Aside0.mk ((by rw [hg];exact Nat.ne_of_gt (blk_lt (g := gb105) (o := .cells #[.bool false,.string (⟨#[49,50]⟩ : ByteArray),.int .i64 4] 23 (0,0)) (by (with_reducible repeat (first | refine blk_drewN ?_ _ | refine blk_drew ?_ | refine blk_alloc ?_ _));exact BK105.out)) : gb115 ≠ gb105));have n8_ := Aside0.mk ((by rw [hg];exact Nat.ne_of_lt (blk_lt (g := gb110) (o := .cells #[.bool true,.string (⟨#[]⟩ : ByteArray),.int .i64 0] 23 (0,0)) (by (with_reducible repeat (first | refine blk_drewN ?_ _ | refine blk_drew ?_ | refine blk_alloc ?_ _));exact BK110.out)) : gb110 ≠ gb115));have n9_ := Aside0.mk ((by rw [hg];exact Nat.ne_of_gt (blk_lt (g := gb110) (o := .cells #[.bool true,.string (⟨#[]⟩ : ByteArray),.int .i64 0] 23 (0,0)) (by (with_reducible repeat (first | refine blk_drewN ?_ _ | refine blk_drew ?_ | refine blk_alloc ?_ _));exact BK110.out)) : gb115 ≠ gb110));clear BK105;clear BK110;clear HB;have BK105 := n0_;have BK110 := n1_;have HB := n2_;have BK115 := n3_;have GW115 := n4_;have GE115 := n5_;have NB105_115 := n6_;have NB115_105 := n7_;have NB110_115 := n8_;have NB115_110 := n9_;clear n0_ n1_ n2_ n3_ n4_ n5_ n6_ n7_ n8_ n9_;clear hb hbox hg;have hnb63 := NB115_105.out;have hnc63 := NB105_115.out;have hnb64 := NB115_110.out;have hnc64 := NB110_115.out;have hcz65_0 : w62.cell? ⟨gb115,0,none⟩ = some (.bool false) := (blk_cell BK115.out 0).trans rfl;have hcz65_1 : w62.cell? ⟨gb115,1,none⟩ = some (.string (⟨#[]⟩ : ByteArray)) := (blk_cell BK115.out 1).trans rfl;have hcz65_2 : w62.cell? ⟨gb115,2,none⟩ = some (.int .i64 0) := (blk_cell BK115.out 2).trans rfl;have hfz65_0 := blk_frozen BK115.out 0;have hfz65_1 := blk_frozen BK115.out 1;have hfz65_2 := blk_frozen BK115.out 2) | ((with_reducible refine gate_callee (f := 5) rfl ?_);refine goesL_ (some 51) rfl rfl Tryz.func5 (by kernel_rfl) rfl #[.bool false,.string (⟨#[49]⟩ : ByteArray),.int .i64 100001] rfl (by (try simp only [List.map_toArray,List.map_cons,List.map_nil]);first | done | rfl | (simp only [List.length_drop,List.length_take];rfl)) ?_;(with_reducible refine (decimal_Make.calls false (⟨#[49]⟩ : ByteArray) 100001 false (⟨#[]⟩ : ByteArray) 0 2 _ A4.out).mono ?_);rintro e w66 ⟨rfl,hb⟩;refine ⟨_,rfl,?_⟩;have n0_ := Aside0.mk (blk_below (g := gb105) (o := .cells #[.bool false,.string (⟨#[49,50]⟩ : ByteArray),.int .i64 4] 23 (0,0)) (by (with_reducible repeat (first | refine blk_drewN ?_ _ | refine blk_drew ?_ | refine blk_alloc ?_ _));refine blk_far ?_ NB105_115.out _;(with_reducible repeat (first | refine blk_drewN ?_ _ | refine blk_drew ?_ | refine blk_alloc ?_ _));refine blk_far ?_ NB105_115.out _;(with_reducible repeat (first | refine blk_drewN ?_ _ | refine blk_drew ?_ | refine blk_alloc ?_ _));refine blk_far ?_ NB105_115.out _;(with_reducible repeat (first | refine blk_drewN ?_ _ | refine blk_drew ?_ | refine blk_alloc ?_ _));exact BK105.out) hb);have n1_ := Aside0.mk (blk_below (g := gb110) (o := .cells #[.bool true,.string (⟨#[]⟩ : ByteArray),.int .i64 0] 23 (0,0)) (by (with_reducible repeat (first | refine blk_drewN ?_ _ | refine blk_drew ?_ | refine blk_alloc ?_ _));refine blk_far ?_ NB110_115.out _;(with_reducible repeat (first | refine blk_drewN ?_ _ | refine blk_drew ?_ | refine blk_alloc ?_ _));refine blk_far ?_ NB110_115.out _;(with_reducible repeat (first | refine blk_drewN ?_ _ | refine blk_drew ?_ | refine blk_alloc ?_ _));refine blk_far ?_ NB110_115.out _;(with_reducible repeat (first | refine blk_drewN ?_ _ | refine blk_drew ?_ | refine blk_alloc ?_ _));exact BK110.out) hb);have n2_ := Aside0.mk (blk_below (g := gb115) (o := .cells #[.bool false,.string (⟨#[]⟩ : ByteArray),.int .i64 0] 23 (0,0)) (by (with_reducible repeat (first | refine blk_drewN ?_ _ | refine blk_drew ?_ | refine blk_alloc ?_ _));refine blk_put (cs := #[.bool false,.string (⟨#[]⟩ : ByteArray),.int .i64 0]) ?_ 2 _ rfl;(with_reducible repeat (first | refine blk_drewN ?_ _ | refine blk_drew ?_ | refine blk_alloc ?_ _));refine blk_put (cs := #[.bool false,.string (⟨#[]⟩ : ByteArray),.int .i64 0]) ?_ 1 _ rfl;(with_reducible repeat (first | refine blk_drewN ?_ _ | refine blk_drew ?_ | refine blk_alloc ?_ _));refine blk_put (cs := #[.bool false,.string (⟨#[]⟩ : ByteArray),.int .i64 0]) ?_ 0 _ rfl;(with_reducible repeat (first | refine blk_drewN ?_ _ | refine blk_drew ?_ | refine blk_alloc ?_ _));exact BK115.out) hb);have n3_ := Aside0.mk (below_step (by repeat (first | (with_reducible first | exact HB.out | apply below_alloc | apply pw_below_drewN | apply below_drew1 | refine below_set ?_ GE105.out | refine below_set ?_ GE110.out | refine below_set ?_ GE115.out) | exact HB.out)) hb);clear BK105;clear BK110;clear BK115;clear HB;have BK105 := n0_;have BK110 := n1_;have BK115 := n2_;have HB := n3_;clear n0_ n1_ n2_ n3_;(try clear hb);(try clear hb2);(try clear hk);(try clear hi)) | ((with_reducible refine gate_dst (N := 7) rfl ?_);refine box_event ?hg (N := 7) ?hd (cs := #[.bool false,.string (⟨#[]⟩ : ByteArray),.int .i64 0]) (t := 23) ?hr ?_;(case hd => rfl);(case hg => rfl);(case hr => first | (go_simp;done) | (go_simp;rfl));intro gb120 hg w67 hbox hb;have n0_ := Aside0.mk (blk_below (g := gb105) (o := .cells #[.bool false,.string (⟨#[49,50]⟩ : ByteArray),.int .i64 4] 23 (0,0)) (by (with_reducible repeat (first | refine blk_drewN ?_ _ | refine blk_drew ?_ | refine blk_alloc ?_ _));exact BK105.out) hb);have n1_ := Aside0.mk (blk_below (g := gb110) (o := .cells #[.bool true,.string (⟨#[]⟩ : ByteArray),.int .i64 0] 23 (0,0)) (by (with_reducible repeat (first | refine blk_drewN ?_ _ | refine blk_drew ?_ | refine blk_alloc ?_ _));exact BK110.out) hb);have n2_ := Aside0.mk (blk_below (g := gb115) (o := .cells #[.bool false,.string (⟨#[]⟩ : ByteArray),.int .i64 0] 23 (0,0)) (by (with_reducible repeat (first | refine blk_drewN ?_ _ | refine blk_drew ?_ | refine blk_alloc ?_ _));exact BK115.out) hb);have n3_ := Aside0.mk (below_step (by repeat (first | (with_reducible first | exact HB.out | apply below_alloc | apply pw_below_drewN | apply below_drew1 | refine below_set ?_ GE105.out | refine below_set ?_ GE110.out | refine below_set ?_ GE115.out) | exact HB.out)) hb);have n4_ := Aside0.mk (hbox);have n5_ := Aside0.mk ((by rw [hg];exact (below_size (by repeat (first | (with_reducible first | exact HB.out | apply below_alloc | apply pw_below_drewN | apply below_drew1 | refine below_set ?_ GE105.out | refine below_set ?_ GE110.out | refine below_set ?_ GE115.out) | exact HB.out))) : w.heap.size ≤ gb120));have n6_ := Aside0.mk ((by rw [hg];exact (below_size (by repeat (first | (with_reducible first | exact HB.out | apply below_alloc | apply pw_below_drewN | apply below_drew1 | refine below_set ?_ GE105.out | refine below_set ?_ GE110.out | refine below_set ?_ GE115.out) | exact HB.out))) : w.heap.size ≤ gb120));have n7_ := Aside0.mk ((by rw [hg];exact Nat.ne_of_lt (blk_lt (g := gb105) (o := .cells #[.bool false,.string (⟨#[49,50]⟩ : ByteArray),.int .i64 4] 23 (0,0)) (by (with_reducible repeat (first | refine blk_drewN ?_ _ | refine blk_drew ?_ | refine blk_alloc ?_ _));exact BK105.out)) : gb105 ≠ gb120));have n8_ := Aside0.mk ((by rw [hg];exact Nat.ne_of_gt (blk_lt (g := gb105) (o := .cells #[.bool false,.string (⟨#[49,50]⟩ : ByteArray),.int .i64 4] 23 (0,0)) (by (with_reducible repeat (first | refine blk_drewN ?_ _ | refine blk_drew ?_ | refine blk_alloc ?_ _));exact BK105.out)) : gb120 ≠ gb105));have n9_ := Aside0.mk ((by rw [hg];exact Nat.ne_of_lt (blk_lt (g := gb110) (o := .cells #[.bool true,.string (⟨#[]⟩ : ByteArray),.int .i64 0] 23 (0,0)) (by (with_reducible repeat (first | refine blk_drewN ?_ _ | refine blk_drew ?_ | refine blk_alloc ?_ _));exact BK110.out)) : gb110 ≠ gb120));have n10_ := Aside0.mk ((by rw [hg];exact Nat.ne_of_gt (blk_lt (g := gb110) (o := .cells #[.bool true,.string (⟨#[]⟩ : ByteArray),.int .i64 0] 23 (0,0)) (by (with_reducible repeat (first | refine blk_drewN ?_ _ | refine blk_drew ?_ | refine blk_alloc ?_ _));exact BK110.out)) : gb120 ≠ gb110));have n11_ := Aside0.mk ((by rw [hg];exact Nat.ne_of_lt (blk_lt (g := gb115) (o := .cells #[.bool false,.string (⟨#[]⟩ : ByteArray),.int .i64 0] 23 (0,0)) (by (with_reducible repeat (first | refine blk_drewN ?_ _ | refine blk_drew ?_ | refine blk_alloc ?_ _));exact BK115.out)) : gb115 ≠ gb120));have n12_ := Aside0.mk ((by rw [hg];exact Nat.ne_of_gt (blk_lt (g := gb115) (o := .cells #[.bool false,.string (⟨#[]⟩ : ByteArray),.int .i64 0] 23 (0,0)) (by (with_reducible repeat (first | refine blk_drewN ?_ _ | refine blk_drew ?_ | refine blk_alloc ?_ _));exact BK115.out)) : gb120 ≠ gb115));clear BK105;clear BK110;clear BK115;clear HB;have BK105 := n0_;have BK110 := n1_;have BK115 := n2_;have HB := n3_;have BK120 := n4_;have GW120 := n5_;have GE120 := n6_;have NB105_120 := n7_;have NB120_105 := n8_;have NB110_120 := n9_;have NB120_110 := n10_;have NB115_120 := n11_;have NB120_115 := n12_;clear n0_ n1_ n2_ n3_ n4_ n5_ n6_ n7_ n8_ n9_ n10_ n11_ n12_;clear hb hbox hg;have hnb68 := NB120_105.out;have hnc68 := NB105_120.out;have hnb69 := NB120_110.out;have hnc69 := NB110_120.out;have hnb70 := NB120_115.out;have hnc70 := NB115_120.out;have hcz71_0 : w67.cell? ⟨gb120,0,none⟩ = some (.bool false) := (blk_cell BK120.out 0).trans rfl;have hcz71_1 : w67.cell? ⟨gb120,1,none⟩ = some (.string (⟨#[]⟩ : ByteArray)) := (blk_cell BK120.out 1).trans rfl;have hcz71_2 : w67.cell? ⟨gb120,2,none⟩ = some (.int .i64 0) := (blk_cell BK120.out 2).trans rfl;have hfz71_0 := blk_frozen BK120.out 0;have hfz71_1 := blk_frozen BK120.out 1;have hfz71_2 := blk_frozen BK120.out 2))
 have n0_ : Aside0 ((((w67.setCell ⟨gb120,0,none⟩ (.bool false)).setCell ⟨gb120,1,none⟩ (.string (⟨#[]⟩ : ByteArray))).setCell ⟨gb120,2,none⟩ (.int .i64 0)).heap[gb105]? = some (.cells #[.bool false,.string (⟨#[49,50]⟩ : ByteArray),.int .i64 4] 23 (0,0))) := ⟨by (with_reducible repeat (first | refine blk_drewN ?_ _ | refine blk_drew ?_ | refine blk_alloc ?_ _));refine blk_far ?_ NB105_120.out _;(with_reducible repeat (first | refine blk_drewN ?_ _ | refine blk_drew ?_ | refine blk_alloc ?_ _));refine blk_far ?_ NB105_120.out _;(with_reducible repeat (first | refine blk_drewN ?_ _ | refine blk_drew ?_ | refine blk_alloc ?_ _));refine blk_far ?_ NB105_120.out _;(with_reducible repeat (first | refine blk_drewN ?_ _ | refine blk_drew ?_ | refine blk_alloc ?_ _));exact BK105.out⟩
 have n1_ : Aside0 ((((w67.setCell ⟨gb120,0,none⟩ (.bool false)).setCell ⟨gb120,1,none⟩ (.string (⟨#[]⟩ : ByteArray))).setCell ⟨gb120,2,none⟩ (.int .i64 0)).heap[gb110]? = some (.cells #[.bool true,.string (⟨#[]⟩ : ByteArray),.int .i64 0] 23 (0,0))) := ⟨by (with_reducible repeat (first | refine blk_drewN ?_ _ | refine blk_drew ?_ | refine blk_alloc ?_ _));refine blk_far ?_ NB110_120.out _;(with_reducible repeat (first | refine blk_drewN ?_ _ | refine blk_drew ?_ | refine blk_alloc ?_ _));refine blk_far ?_ NB110_120.out _;(with_reducible repeat (first | refine blk_drewN ?_ _ | refine blk_drew ?_ | refine blk_alloc ?_ _));refine blk_far ?_ NB110_120.out _;(with_reducible repeat (first | refine blk_drewN ?_ _ | refine blk_drew ?_ | refine blk_alloc ?_ _));exact BK110.out⟩
 have n2_ : Aside0 ((((w67.setCell ⟨gb120,0,none⟩ (.bool false)).setCell ⟨gb120,1,none⟩ (.string (⟨#[]⟩ : ByteArray))).setCell ⟨gb120,2,none⟩ (.int .i64 0)).heap[gb115]? = some (.cells #[.bool false,.string (⟨#[]⟩ : ByteArray),.int .i64 0] 23 (0,0))) := ⟨by (with_reducible repeat (first | refine blk_drewN ?_ _ | refine blk_drew ?_ | refine blk_alloc ?_ _));refine blk_far ?_ NB115_120.out _;(with_reducible repeat (first | refine blk_drewN ?_ _ | refine blk_drew ?_ | refine blk_alloc ?_ _));refine blk_far ?_ NB115_120.out _;(with_reducible repeat (first | refine blk_drewN ?_ _ | refine blk_drew ?_ | refine blk_alloc ?_ _));refine blk_far ?_ NB115_120.out _;(with_reducible repeat (first | refine blk_drewN ?_ _ | refine blk_drew ?_ | refine blk_alloc ?_ _));exact BK115.out⟩
 have n3_ : Aside0 ((((w67.setCell ⟨gb120,0,none⟩ (.bool false)).setCell ⟨gb120,1,none⟩ (.string (⟨#[]⟩ : ByteArray))).setCell ⟨gb120,2,none⟩ (.int .i64 0)).heap[gb120]? = some (.cells #[.bool false,.string (⟨#[]⟩ : ByteArray),.int .i64 0] 23 (0,0))) := ⟨by (with_reducible repeat (first | refine blk_drewN ?_ _ | refine blk_drew ?_ | refine blk_alloc ?_ _));refine blk_put (cs := #[.bool false,.string (⟨#[]⟩ : ByteArray),.int .i64 0]) ?_ 2 _ rfl;(with_reducible repeat (first | refine blk_drewN ?_ _ | refine blk_drew ?_ | refine blk_alloc ?_ _));refine blk_put (cs := #[.bool false,.string (⟨#[]⟩ : ByteArray),.int .i64 0]) ?_ 1 _ rfl;(with_reducible repeat (first | refine blk_drewN ?_ _ | refine blk_drew ?_ | refine blk_alloc ?_ _));refine blk_put (cs := #[.bool false,.string (⟨#[]⟩ : ByteArray),.int .i64 0]) ?_ 0 _ rfl;(with_reducible repeat (first | refine blk_drewN ?_ _ | refine blk_drew ?_ | refine blk_alloc ?_ _));exact BK120.out⟩
 have n4_ : Aside0 (Below w.heap.size w (((w67.setCell ⟨gb120,0,none⟩ (.bool false)).setCell ⟨gb120,1,none⟩ (.string (⟨#[]⟩ : ByteArray))).setCell ⟨gb120,2,none⟩ (.int .i64 0))) := ⟨by repeat (first | (with_reducible first | exact HB.out | apply below_alloc | apply pw_below_drewN | apply below_drew1 | refine below_set ?_ GE105.out | refine below_set ?_ GE110.out | refine below_set ?_ GE115.out | refine below_set ?_ GE120.out) | exact HB.out)⟩
 (try clear BK105)
 (try clear BK110)
 (try clear BK115)
 (try clear BK120)
 (try clear HB)
 generalize (((w67.setCell ⟨gb120,0,none⟩ (.bool false)).setCell ⟨gb120,1,none⟩ (.string (⟨#[]⟩ : ByteArray))).setCell ⟨gb120,2,none⟩ (.int .i64 0)) = w72 at n0_ n1_ n2_ n3_ n4_ ⊢
 have BK105 := n0_
 have BK110 := n1_
 have BK115 := n2_
 have BK120 := n3_
 have HB := n4_
 clear n0_ n1_ n2_ n3_ n4_
 have n0_ := Aside0.mk (blk_drew BK105.out)
 have n1_ := Aside0.mk (blk_drew BK110.out)
 have n2_ := Aside0.mk (blk_drew BK115.out)
 have n3_ := Aside0.mk (blk_drew BK120.out)
 have n4_ := Aside0.mk (below_drew1 HB.out)
 clear BK105
 clear BK110
 clear BK115
 clear BK120
 clear HB
 have BK105 := n0_
 have BK110 := n1_
 have BK115 := n2_
 have BK120 := n3_
 have HB := n4_
 clear n0_ n1_ n2_ n3_ n4_
 refine start_ (n := 24) (S := fun w' => w'.cell? ⟨gb105,0,none⟩ = some (.bool false) ∧ w'.cell? ⟨gb105,1,none⟩ = some (.string (⟨#[49,50]⟩ : ByteArray)) ∧ w'.cell? ⟨gb105,2,none⟩ = some (.int .i64 4) ∧ w'.cell? ⟨gb110,0,none⟩ = some (.bool true) ∧ w'.cell? ⟨gb110,1,none⟩ = some (.string (⟨#[]⟩ : ByteArray)) ∧ w'.cell? ⟨gb110,2,none⟩ = some (.int .i64 0)) (ds := []) #[false,false,false,false,false,false,false,false,false,false,false,false,false,false,false,false,false,false,false,false,false,false,false,false] (by kernel_rfl) rfl rfl ⟨(blk_cell BK105.out 0).trans rfl,(blk_cell BK105.out 1).trans rfl,(blk_cell BK105.out 2).trans rfl,(blk_cell BK110.out 0).trans rfl,(blk_cell BK110.out 1).trans rfl,(blk_cell BK110.out 2).trans rfl⟩ (fun hHeld => ?_);refine with_tabW tabardlaw7_shown.tab5 tabardlaw7_shown.bits5 (fun HT_ HW_ => ?_)
 generalize w72.drew = w73 at BK105 BK110 BK115 BK120 HB hHeld ⊢
 refine take_ (i := 0) (N := some 54) (v := ?_) (a' := ?_) #[true,false,false,false,false,false,false,false,false,false,false,false,false,false,false,false,false,false,false,false,false,false,false,false] rfl rfl (take_ofW HT_.out HW_.out (by kernel_rfl)) (fun _ _ _ h => h) (Or.inl ⟨by rfl,?_⟩) hHeld ?_ ?_
 rotate_left
 ·rintro w' ⟨s0,s1,s2,s3,s4,s5⟩
  go_simp
  with_reducible rfl
 rotate_left
 ·simp only [Act.put,List.setIfInBounds_toArray,List.set_cons_zero,List.set_cons_succ,i64_w,i32_w]
  rfl
 refine one_ (i := 1) (N := some 55) #[true,true,false,false,false,false,false,false,false,false,false,false,false,false,false,false,false,false,false,false,false,false,false,false] rfl rfl (one_of HT_.out (by kernel_rfl)) (by decide) (fun K hK => ?_)
 refine goes_ Tryz.func13 (by kernel_rfl) rfl #[.bool false,.string (⟨#[49,50]⟩ : ByteArray),.int .i64 4] (by rfl) rfl rfl (by (try simp only [List.map_toArray,List.map_cons,List.map_nil]);first | done | rfl | (simp only [List.length_drop,List.length_take];rfl)) ?_
 with_reducible refine (tabardlaw7_dec.calls false (⟨#[49,50]⟩ : ByteArray) 4 false (⟨#[49,50]⟩ : ByteArray) 4 _ A5.out).mono ?_
 rintro e w74 ⟨rfl,hb⟩
 refine ⟨_,rfl,?_⟩
 have n0_ := Aside0.mk (blk_below (g := gb105) (o := .cells #[.bool false,.string (⟨#[49,50]⟩ : ByteArray),.int .i64 4] 23 (0,0)) (by (with_reducible repeat (first | refine blk_drewN ?_ _ | refine blk_drew ?_ | refine blk_alloc ?_ _));exact BK105.out) hb)
 have n1_ := Aside0.mk (blk_below (g := gb110) (o := .cells #[.bool true,.string (⟨#[]⟩ : ByteArray),.int .i64 0] 23 (0,0)) (by (with_reducible repeat (first | refine blk_drewN ?_ _ | refine blk_drew ?_ | refine blk_alloc ?_ _));exact BK110.out) hb)
 have n2_ := Aside0.mk (blk_below (g := gb115) (o := .cells #[.bool false,.string (⟨#[]⟩ : ByteArray),.int .i64 0] 23 (0,0)) (by (with_reducible repeat (first | refine blk_drewN ?_ _ | refine blk_drew ?_ | refine blk_alloc ?_ _));exact BK115.out) hb)
 have n3_ := Aside0.mk (blk_below (g := gb120) (o := .cells #[.bool false,.string (⟨#[]⟩ : ByteArray),.int .i64 0] 23 (0,0)) (by (with_reducible repeat (first | refine blk_drewN ?_ _ | refine blk_drew ?_ | refine blk_alloc ?_ _));exact BK120.out) hb)
 have n4_ := Aside0.mk (below_step (by repeat (first | (with_reducible first | exact HB.out | apply below_alloc | apply pw_below_drewN | apply below_drew1 | refine below_set ?_ GE105.out | refine below_set ?_ GE110.out | refine below_set ?_ GE115.out | refine below_set ?_ GE120.out) | exact HB.out)) hb)
 clear BK105
 clear BK110
 clear BK115
 clear BK120
 clear HB
 have BK105 := n0_
 have BK110 := n1_
 have BK115 := n2_
 have BK120 := n3_
 have HB := n4_
 clear n0_ n1_ n2_ n3_ n4_
 (try clear hb)
 (try clear hb2)
 (try clear hk)
 (try clear hi)
 refine hK.out _ _ ⟨(blk_cell BK105.out 0).trans rfl,(blk_cell BK105.out 1).trans rfl,(blk_cell BK105.out 2).trans rfl,(blk_cell BK110.out 0).trans rfl,(blk_cell BK110.out 1).trans rfl,(blk_cell BK110.out 2).trans rfl⟩ (fun hHeld => ?_)
 clear hK K
 refine norm_ (a' := ?_) ?_ ?_
 rotate_left
 ·show Act.put _ (some 55) _ = _
  simp only [Act.put,List.setIfInBounds_toArray,List.set_cons_zero,List.set_cons_succ,i64_w,i32_w]
  rfl
 refine pure_ (i := 2) (N := some 56) (v := ?_) (a' := ?_) #[true,true,true,false,false,false,false,false,false,false,false,false,false,false,false,false,false,false,false,false,false,false,false,false] rfl rfl (any_of HT_.out (by kernel_rfl)) (fun _ _ _ h => h) (Or.inl ⟨by rfl,?_⟩) ?_ ?_
 rotate_left
 ·intro w'
  go_simp
  with_reducible rfl
 rotate_left
 ·simp only [Act.put,List.setIfInBounds_toArray,List.set_cons_zero,List.set_cons_succ,i64_w,i32_w]
  rfl
 refine pure_ (i := 3) (N := some 57) (v := ?_) (a' := ?_) #[true,true,true,true,false,false,false,false,false,false,false,false,false,false,false,false,false,false,false,false,false,false,false,false] rfl rfl (any_of HT_.out (by kernel_rfl)) (fun _ _ _ h => h) (Or.inl ⟨by rfl,?_⟩) ?_ ?_
 rotate_left
 ·intro w'
  go_simp
  with_reducible rfl
 rotate_left
 ·simp only [Act.put,List.setIfInBounds_toArray,List.set_cons_zero,List.set_cons_succ,i64_w,i32_w]
  rfl
 refine pure_ (i := 4) (N := some 58) (v := ?_) (a' := ?_) #[true,true,true,true,true,false,false,false,false,false,false,false,false,false,false,false,false,false,false,false,false,false,false,false] rfl rfl (any_of HT_.out (by kernel_rfl)) (fun _ _ _ h => h) (Or.inl ⟨by rfl,?_⟩) ?_ ?_
 rotate_left
 ·intro w'
  go_simp
  with_reducible rfl
 rotate_left
 ·simp only [Act.put,List.setIfInBounds_toArray,List.set_cons_zero,List.set_cons_succ,i64_w,i32_w]
  rfl
 refine pure_ (i := 5) (N := some 59) (v := ?_) (a' := ?_) #[true,true,true,true,true,true,false,false,false,false,false,false,false,false,false,false,false,false,false,false,false,false,false,false] rfl rfl (any_of HT_.out (by kernel_rfl)) (fun _ _ _ h => h) (Or.inl ⟨by rfl,?_⟩) ?_ ?_
 rotate_left
 ·intro w'
  go_simp
  with_reducible rfl
 rotate_left
 ·simp only [Act.put,List.setIfInBounds_toArray,List.set_cons_zero,List.set_cons_succ,i64_w,i32_w]
  rfl
 refine pure_ (i := 6) (N := some 60) (v := ?_) (a' := ?_) #[true,true,true,true,true,true,true,false,false,false,false,false,false,false,false,false,false,false,false,false,false,false,false,false] rfl rfl (any_of HT_.out (by kernel_rfl)) (fun _ _ _ h => h) (Or.inl ⟨by rfl,?_⟩) ?_ ?_
 rotate_left
 ·intro w'
  go_simp
  with_reducible rfl
 rotate_left
 ·simp only [Act.put,List.setIfInBounds_toArray,List.set_cons_zero,List.set_cons_succ,i64_w,i32_w]
  rfl
 refine pure_ (i := 7) (N := some 61) (v := ?_) (a' := ?_) #[true,true,true,true,true,true,true,true,false,false,false,false,false,false,false,false,false,false,false,false,false,false,false,false] rfl rfl (any_of HT_.out (by kernel_rfl)) (fun _ _ _ h => h) (Or.inl ⟨by rfl,?_⟩) ?_ ?_
 rotate_left
 ·intro w'
  go_simp
  with_reducible rfl
 rotate_left
 ·simp only [Act.put,List.setIfInBounds_toArray,List.set_cons_zero,List.set_cons_succ,i64_w,i32_w]
  rfl
 refine take_ (i := 8) (N := some 62) (v := ?_) (a' := ?_) #[true,true,true,true,true,true,true,true,true,false,false,false,false,false,false,false,false,false,false,false,false,false,false,false] rfl rfl (take_ofW HT_.out HW_.out (by kernel_rfl)) (fun _ _ _ h => h) (Or.inl ⟨by rfl,?_⟩) hHeld ?_ ?_
 rotate_left
 ·rintro w' ⟨s0,s1,s2,s3,s4,s5⟩
  go_simp
  with_reducible rfl
 rotate_left
 ·simp only [Act.put,List.setIfInBounds_toArray,List.set_cons_zero,List.set_cons_succ,i64_w,i32_w]
  rfl
 refine one_ (i := 9) (N := some 63) #[true,true,true,true,true,true,true,true,true,true,false,false,false,false,false,false,false,false,false,false,false,false,false,false] rfl rfl (one_of HT_.out (by kernel_rfl)) (by decide) (fun K hK => ?_)
 refine goes_ Tryz.func13 (by kernel_rfl) rfl #[.bool true,.string (⟨#[]⟩ : ByteArray),.int .i64 0] (by rfl) rfl rfl (by (try simp only [List.map_toArray,List.map_cons,List.map_nil]);first | done | rfl | (simp only [List.length_drop,List.length_take];rfl)) ?_
 with_reducible refine (tabardlaw7_dec.calls true (⟨#[]⟩ : ByteArray) 0 true (⟨#[]⟩ : ByteArray) 0 _ A6.out).mono ?_
 rintro e w75 ⟨rfl,hb⟩
 refine ⟨_,rfl,?_⟩
 have n0_ := Aside0.mk (blk_below (g := gb105) (o := .cells #[.bool false,.string (⟨#[49,50]⟩ : ByteArray),.int .i64 4] 23 (0,0)) (by (with_reducible repeat (first | refine blk_drewN ?_ _ | refine blk_drew ?_ | refine blk_alloc ?_ _));exact BK105.out) hb)
 have n1_ := Aside0.mk (blk_below (g := gb110) (o := .cells #[.bool true,.string (⟨#[]⟩ : ByteArray),.int .i64 0] 23 (0,0)) (by (with_reducible repeat (first | refine blk_drewN ?_ _ | refine blk_drew ?_ | refine blk_alloc ?_ _));exact BK110.out) hb)
 have n2_ := Aside0.mk (blk_below (g := gb115) (o := .cells #[.bool false,.string (⟨#[]⟩ : ByteArray),.int .i64 0] 23 (0,0)) (by (with_reducible repeat (first | refine blk_drewN ?_ _ | refine blk_drew ?_ | refine blk_alloc ?_ _));exact BK115.out) hb)
 have n3_ := Aside0.mk (blk_below (g := gb120) (o := .cells #[.bool false,.string (⟨#[]⟩ : ByteArray),.int .i64 0] 23 (0,0)) (by (with_reducible repeat (first | refine blk_drewN ?_ _ | refine blk_drew ?_ | refine blk_alloc ?_ _));exact BK120.out) hb)
 have n4_ := Aside0.mk (below_step (by repeat (first | (with_reducible first | exact HB.out | apply below_alloc | apply pw_below_drewN | apply below_drew1 | refine below_set ?_ GE105.out | refine below_set ?_ GE110.out | refine below_set ?_ GE115.out | refine below_set ?_ GE120.out) | exact HB.out)) hb)
 clear BK105
 clear BK110
 clear BK115
 clear BK120
 clear HB
 have BK105 := n0_
 have BK110 := n1_
 have BK115 := n2_
 have BK120 := n3_
 have HB := n4_
 clear n0_ n1_ n2_ n3_ n4_
 (try clear hb)
 (try clear hb2)
 (try clear hk)
 (try clear hi)
 refine hK.out _ _ ⟨(blk_cell BK105.out 0).trans rfl,(blk_cell BK105.out 1).trans rfl,(blk_cell BK105.out 2).trans rfl,(blk_cell BK110.out 0).trans rfl,(blk_cell BK110.out 1).trans rfl,(blk_cell BK110.out 2).trans rfl⟩ (fun hHeld => ?_)
 clear hK K
 refine norm_ (a' := ?_) ?_ ?_
 rotate_left
 ·show Act.put _ (some 63) _ = _
  simp only [Act.put,List.setIfInBounds_toArray,List.set_cons_zero,List.set_cons_succ,i64_w,i32_w]
  rfl
 refine pure_ (i := 10) (N := some 64) (v := ?_) (a' := ?_) #[true,true,true,true,true,true,true,true,true,true,true,false,false,false,false,false,false,false,false,false,false,false,false,false] rfl rfl (any_of HT_.out (by kernel_rfl)) (fun _ _ _ h => h) (Or.inl ⟨by rfl,?_⟩) ?_ ?_
 rotate_left
 ·intro w'
  go_simp
  with_reducible rfl
 rotate_left
 ·simp only [Act.put,List.setIfInBounds_toArray,List.set_cons_zero,List.set_cons_succ,i64_w,i32_w]
  rfl
 refine pure_ (i := 11) (N := some 65) (v := ?_) (a' := ?_) #[true,true,true,true,true,true,true,true,true,true,true,true,false,false,false,false,false,false,false,false,false,false,false,false] rfl rfl (any_of HT_.out (by kernel_rfl)) (fun _ _ _ h => h) (Or.inl ⟨by rfl,?_⟩) ?_ ?_
 rotate_left
 ·intro w'
  go_simp
  with_reducible rfl
 rotate_left
 ·simp only [Act.put,List.setIfInBounds_toArray,List.set_cons_zero,List.set_cons_succ,i64_w,i32_w]
  rfl
 refine pure_ (i := 12) (N := some 66) (v := ?_) (a' := ?_) #[true,true,true,true,true,true,true,true,true,true,true,true,true,false,false,false,false,false,false,false,false,false,false,false] rfl rfl (any_of HT_.out (by kernel_rfl)) (fun _ _ _ h => h) (Or.inl ⟨by rfl,?_⟩) ?_ ?_
 rotate_left
 ·intro w'
  go_simp
  with_reducible rfl
 rotate_left
 ·simp only [Act.put,List.setIfInBounds_toArray,List.set_cons_zero,List.set_cons_succ,i64_w,i32_w]
  rfl
 refine pure_ (i := 13) (N := some 67) (v := ?_) (a' := ?_) #[true,true,true,true,true,true,true,true,true,true,true,true,true,true,false,false,false,false,false,false,false,false,false,false] rfl rfl (any_of HT_.out (by kernel_rfl)) (fun _ _ _ h => h) (Or.inl ⟨by rfl,?_⟩) ?_ ?_
 rotate_left
 ·intro w'
  go_simp
  with_reducible rfl
 rotate_left
 ·simp only [Act.put,List.setIfInBounds_toArray,List.set_cons_zero,List.set_cons_succ,i64_w,i32_w]
  rfl
 refine pure_ (i := 14) (N := some 68) (v := ?_) (a' := ?_) #[true,true,true,true,true,true,true,true,true,true,true,true,true,true,true,false,false,false,false,false,false,false,false,false] rfl rfl (any_of HT_.out (by kernel_rfl)) (fun _ _ _ h => h) (Or.inl ⟨by rfl,?_⟩) ?_ ?_
 rotate_left
 ·intro w'
  go_simp
  with_reducible rfl
 rotate_left
 ·simp only [Act.put,List.setIfInBounds_toArray,List.set_cons_zero,List.set_cons_succ,i64_w,i32_w]
  rfl
 refine pure_ (i := 15) (N := some 69) (v := ?_) (a' := ?_) #[true,true,true,true,true,true,true,true,true,true,true,true,true,true,true,true,false,false,false,false,false,false,false,false] rfl rfl (any_of HT_.out (by kernel_rfl)) (fun _ _ _ h => h) (Or.inl ⟨by rfl,?_⟩) ?_ ?_
 rotate_left
 ·intro w'
  go_simp
  with_reducible rfl
 rotate_left
 ·simp only [Act.put,List.setIfInBounds_toArray,List.set_cons_zero,List.set_cons_succ,i64_w,i32_w]
  rfl
 refine pure_ (i := 16) (N := some 70) (v := ?_) (a' := ?_) #[true,true,true,true,true,true,true,true,true,true,true,true,true,true,true,true,true,false,false,false,false,false,false,false] rfl rfl (any_of HT_.out (by kernel_rfl)) (fun _ _ _ h => h) (Or.inl ⟨by rfl,?_⟩) ?_ ?_
 rotate_left
 ·intro w'
  go_simp
  with_reducible rfl
 rotate_left
 ·simp only [Act.put,List.setIfInBounds_toArray,List.set_cons_zero,List.set_cons_succ,i64_w,i32_w]
  rfl
 refine pure_ (i := 17) (N := some 71) (v := ?_) (a' := ?_) #[true,true,true,true,true,true,true,true,true,true,true,true,true,true,true,true,true,true,false,false,false,false,false,false] rfl rfl (any_of HT_.out (by kernel_rfl)) (fun _ _ _ h => h) (Or.inl ⟨by rfl,?_⟩) ?_ ?_
 rotate_left
 ·intro w'
  go_simp
  with_reducible rfl
 rotate_left
 ·simp only [Act.put,List.setIfInBounds_toArray,List.set_cons_zero,List.set_cons_succ,i64_w,i32_w]
  rfl
 refine pure_ (i := 18) (N := some 72) (v := ?_) (a' := ?_) #[true,true,true,true,true,true,true,true,true,true,true,true,true,true,true,true,true,true,true,false,false,false,false,false] rfl rfl (any_of HT_.out (by kernel_rfl)) (fun _ _ _ h => h) (Or.inl ⟨by rfl,?_⟩) ?_ ?_
 rotate_left
 ·intro w'
  go_simp
  with_reducible rfl
 rotate_left
 ·simp only [Act.put,List.setIfInBounds_toArray,List.set_cons_zero,List.set_cons_succ,i64_w,i32_w]
  rfl
 refine pure_ (i := 19) (N := some 73) (v := ?_) (a' := ?_) #[true,true,true,true,true,true,true,true,true,true,true,true,true,true,true,true,true,true,true,true,false,false,false,false] rfl rfl (any_of HT_.out (by kernel_rfl)) (fun _ _ _ h => h) (Or.inl ⟨by rfl,?_⟩) ?_ ?_
 rotate_left
 ·intro w'
  go_simp
  with_reducible rfl
 rotate_left
 ·simp only [Act.put,List.setIfInBounds_toArray,List.set_cons_zero,List.set_cons_succ,i64_w,i32_w]
  rfl
 refine pure_ (i := 20) (N := some 74) (v := ?_) (a' := ?_) #[true,true,true,true,true,true,true,true,true,true,true,true,true,true,true,true,true,true,true,true,true,false,false,false] rfl rfl (any_of HT_.out (by kernel_rfl)) (fun _ _ _ h => h) (Or.inl ⟨by rfl,?_⟩) ?_ ?_
 rotate_left
 ·intro w'
  go_simp
  with_reducible rfl
 rotate_left
 ·simp only [Act.put,List.setIfInBounds_toArray,List.set_cons_zero,List.set_cons_succ,i64_w,i32_w]
  rfl
 refine pure_ (i := 21) (N := some 75) (v := ?_) (a' := ?_) #[true,true,true,true,true,true,true,true,true,true,true,true,true,true,true,true,true,true,true,true,true,true,false,false] rfl rfl (any_of HT_.out (by kernel_rfl)) (fun _ _ _ h => h) (Or.inl ⟨by rfl,?_⟩) ?_ ?_
 rotate_left
 ·intro w'
  go_simp
  with_reducible rfl
 rotate_left
 ·simp only [Act.put,List.setIfInBounds_toArray,List.set_cons_zero,List.set_cons_succ,i64_w,i32_w]
  rfl
 refine pure_ (i := 22) (N := some 76) (v := ?_) (a' := ?_) #[true,true,true,true,true,true,true,true,true,true,true,true,true,true,true,true,true,true,true,true,true,true,true,false] rfl rfl (any_of HT_.out (by kernel_rfl)) (fun _ _ _ h => h) (Or.inl ⟨by rfl,?_⟩) ?_ ?_
 rotate_left
 ·intro w'
  go_simp
  with_reducible rfl
 rotate_left
 ·simp only [Act.put,List.setIfInBounds_toArray,List.set_cons_zero,List.set_cons_succ,i64_w,i32_w]
  rfl
 refine pure_ (i := 23) (N := some 77) (v := ?_) (a' := ?_) #[true,true,true,true,true,true,true,true,true,true,true,true,true,true,true,true,true,true,true,true,true,true,true,true] rfl rfl (any_of HT_.out (by kernel_rfl)) (fun _ _ _ h => h) (Or.inl ⟨by rfl,?_⟩) ?_ ?_
 rotate_left
 ·intro w'
  go_simp
  with_reducible rfl
 rotate_left
 ·simp only [Act.put,List.setIfInBounds_toArray,List.set_cons_zero,List.set_cons_succ,i64_w,i32_w]
  rfl
 refine done_ (done_of HT_.out (by kernel_rfl)) ?_
 try go_wp2_with (first | ((with_reducible refine gate_callee (f := 13) rfl ?_);refine goesL_ (some 79) rfl rfl Tryz.func13 (by kernel_rfl) rfl #[.bool false,.string (⟨#[49,50,51,52,53]⟩ : ByteArray),.int .i64 0] rfl (by (try simp only [List.map_toArray,List.map_cons,List.map_nil]);first | done | rfl | (simp only [List.length_drop,List.length_take];rfl)) ?_;(with_reducible refine (tabardlaw7_dec.calls false (⟨#[49,50,51,52,53]⟩ : ByteArray) 0 false (⟨#[49,50,51,52,53]⟩ : ByteArray) 0 _ A7.out).mono ?_);rintro e w76 ⟨rfl,hb⟩;refine ⟨_,rfl,?_⟩;have n0_ := Aside0.mk (below_step (by repeat (first | (with_reducible first | exact HB.out | apply below_alloc | apply pw_below_drewN | apply below_drew1) | exact HB.out)) hb);clear HB;have HB := n0_;clear n0_;(try clear hb);(try clear hb2);(try clear hk);(try clear hi)) | ((with_reducible refine gate_callee (f := 14) rfl ?_);refine goesL_ (some 80) rfl rfl Tryz.func14 (by kernel_rfl) rfl #[.agg #[.bool false,.string (⟨#[49,50,51,52,53]⟩ : ByteArray),.int .i64 0],.int .i64 3,.int .i64 0] rfl (by (try simp only [List.map_toArray,List.map_cons,List.map_nil]);first | done | rfl | (simp only [List.length_drop,List.length_take];rfl)) ?_;(with_reducible refine (decimal_Sig.calls k false (⟨#[49,50,51,52,53]⟩ : ByteArray) 0 3 0 false (⟨#[49,50,51]⟩ : ByteArray) 2 0 _ A8.out).mono ?_);rintro e w77 ⟨rfl,hb⟩;refine ⟨_,rfl,?_⟩;have n0_ := Aside0.mk (below_step (by repeat (first | (with_reducible first | exact HB.out | apply below_alloc | apply pw_below_drewN | apply below_drew1) | exact HB.out)) hb);clear HB;have HB := n0_;clear n0_;(try clear hb);(try clear hb2);(try clear hk);(try clear hi)) | ((with_reducible refine gate_dst (N := 9) rfl ?_);refine box_event ?hg (N := 9) ?hd (cs := #[.bool false,.string (⟨#[]⟩ : ByteArray),.int .i64 0]) (t := 23) ?hr ?_;(case hd => rfl);(case hg => rfl);(case hr => first | (go_simp;done) | (go_simp;rfl));intro gb134 hg w78 hbox hb;have n0_ := Aside0.mk (below_step (by repeat (first | (with_reducible first | exact HB.out | apply below_alloc | apply pw_below_drewN | apply below_drew1) | exact HB.out)) hb);have n1_ := Aside0.mk (hbox);have n2_ := Aside0.mk ((by rw [hg];exact (below_size (by repeat (first | (with_reducible first | exact HB.out | apply below_alloc | apply pw_below_drewN | apply below_drew1) | exact HB.out))) : w.heap.size ≤ gb134));have n3_ := Aside0.mk ((by rw [hg];exact (below_size (by repeat (first | (with_reducible first | exact HB.out | apply below_alloc | apply pw_below_drewN | apply below_drew1) | exact HB.out))) : w.heap.size ≤ gb134));clear HB;have HB := n0_;have BK134 := n1_;have GW134 := n2_;have GE134 := n3_;clear n0_ n1_ n2_ n3_;clear hb hbox hg;have hcz79_0 : w78.cell? ⟨gb134,0,none⟩ = some (.bool false) := (blk_cell BK134.out 0).trans rfl;have hcz79_1 : w78.cell? ⟨gb134,1,none⟩ = some (.string (⟨#[]⟩ : ByteArray)) := (blk_cell BK134.out 1).trans rfl;have hcz79_2 : w78.cell? ⟨gb134,2,none⟩ = some (.int .i64 0) := (blk_cell BK134.out 2).trans rfl;have hfz79_0 := blk_frozen BK134.out 0;have hfz79_1 := blk_frozen BK134.out 1;have hfz79_2 := blk_frozen BK134.out 2) | ((with_reducible refine gate_callee (f := 13) rfl ?_);refine goesL_ (some 84) rfl rfl Tryz.func13 (by kernel_rfl) rfl #[.bool false,.string (⟨#[49,50,51,53]⟩ : ByteArray),.int .i64 1] rfl (by (try simp only [List.map_toArray,List.map_cons,List.map_nil]);first | done | rfl | (simp only [List.length_drop,List.length_take];rfl)) ?_;(with_reducible refine (tabardlaw7_dec.calls false (⟨#[49,50,51,53]⟩ : ByteArray) 1 false (⟨#[49,50,51,53]⟩ : ByteArray) 1 _ A9.out).mono ?_);rintro e w80 ⟨rfl,hb⟩;refine ⟨_,rfl,?_⟩;have n0_ := Aside0.mk (blk_below (g := gb134) (o := .cells #[.bool false,.string (⟨#[49,50,51]⟩ : ByteArray),.int .i64 2] 23 (0,0)) (by (with_reducible repeat (first | refine blk_drewN ?_ _ | refine blk_drew ?_ | refine blk_alloc ?_ _));refine blk_put (cs := #[.bool false,.string (⟨#[49,50,51]⟩ : ByteArray),.int .i64 0]) ?_ 2 _ rfl;(with_reducible repeat (first | refine blk_drewN ?_ _ | refine blk_drew ?_ | refine blk_alloc ?_ _));refine blk_put (cs := #[.bool false,.string (⟨#[]⟩ : ByteArray),.int .i64 0]) ?_ 1 _ rfl;(with_reducible repeat (first | refine blk_drewN ?_ _ | refine blk_drew ?_ | refine blk_alloc ?_ _));refine blk_put (cs := #[.bool false,.string (⟨#[]⟩ : ByteArray),.int .i64 0]) ?_ 0 _ rfl;(with_reducible repeat (first | refine blk_drewN ?_ _ | refine blk_drew ?_ | refine blk_alloc ?_ _));exact BK134.out) hb);have n1_ := Aside0.mk (below_step (by repeat (first | (with_reducible first | exact HB.out | apply below_alloc | apply pw_below_drewN | apply below_drew1 | refine below_set ?_ GE134.out) | exact HB.out)) hb);clear BK134;clear HB;have BK134 := n0_;have HB := n1_;clear n0_ n1_;(try clear hb);(try clear hb2);(try clear hk);(try clear hi)) | ((with_reducible refine gate_callee (f := 14) rfl ?_);refine goesL_ (some 85) rfl rfl Tryz.func14 (by kernel_rfl) rfl #[.agg #[.bool false,.string (⟨#[49,50,51,53]⟩ : ByteArray),.int .i64 1],.int .i64 3,.int .i64 0] rfl (by (try simp only [List.map_toArray,List.map_cons,List.map_nil]);first | done | rfl | (simp only [List.length_drop,List.length_take];rfl)) ?_;(with_reducible refine (decimal_Sig.calls k false (⟨#[49,50,51,53]⟩ : ByteArray) 1 3 0 false (⟨#[49,50,52]⟩ : ByteArray) 2 0 _ A10.out).mono ?_);rintro e w81 ⟨rfl,hb⟩;refine ⟨_,rfl,?_⟩;have n0_ := Aside0.mk (blk_below (g := gb134) (o := .cells #[.bool false,.string (⟨#[49,50,51]⟩ : ByteArray),.int .i64 2] 23 (0,0)) (by (with_reducible repeat (first | refine blk_drewN ?_ _ | refine blk_drew ?_ | refine blk_alloc ?_ _));exact BK134.out) hb);have n1_ := Aside0.mk (below_step (by repeat (first | (with_reducible first | exact HB.out | apply below_alloc | apply pw_below_drewN | apply below_drew1 | refine below_set ?_ GE134.out) | exact HB.out)) hb);clear BK134;clear HB;have BK134 := n0_;have HB := n1_;clear n0_ n1_;(try clear hb);(try clear hb2);(try clear hk);(try clear hi)) | ((with_reducible refine gate_dst (N := 11) rfl ?_);refine box_event ?hg (N := 11) ?hd (cs := #[.bool false,.string (⟨#[]⟩ : ByteArray),.int .i64 0]) (t := 23) ?hr ?_;(case hd => rfl);(case hg => rfl);(case hr => first | (go_simp;done) | (go_simp;rfl));intro gb142 hg w82 hbox hb;have n0_ := Aside0.mk (blk_below (g := gb134) (o := .cells #[.bool false,.string (⟨#[49,50,51]⟩ : ByteArray),.int .i64 2] 23 (0,0)) (by (with_reducible repeat (first | refine blk_drewN ?_ _ | refine blk_drew ?_ | refine blk_alloc ?_ _));exact BK134.out) hb);have n1_ := Aside0.mk (below_step (by repeat (first | (with_reducible first | exact HB.out | apply below_alloc | apply pw_below_drewN | apply below_drew1 | refine below_set ?_ GE134.out) | exact HB.out)) hb);have n2_ := Aside0.mk (hbox);have n3_ := Aside0.mk ((by rw [hg];exact (below_size (by repeat (first | (with_reducible first | exact HB.out | apply below_alloc | apply pw_below_drewN | apply below_drew1 | refine below_set ?_ GE134.out) | exact HB.out))) : w.heap.size ≤ gb142));have n4_ := Aside0.mk ((by rw [hg];exact (below_size (by repeat (first | (with_reducible first | exact HB.out | apply below_alloc | apply pw_below_drewN | apply below_drew1 | refine below_set ?_ GE134.out) | exact HB.out))) : w.heap.size ≤ gb142));have n5_ := Aside0.mk ((by rw [hg];exact Nat.ne_of_lt (blk_lt (g := gb134) (o := .cells #[.bool false,.string (⟨#[49,50,51]⟩ : ByteArray),.int .i64 2] 23 (0,0)) (by (with_reducible repeat (first | refine blk_drewN ?_ _ | refine blk_drew ?_ | refine blk_alloc ?_ _));exact BK134.out)) : gb134 ≠ gb142));have n6_ := Aside0.mk ((by rw [hg];exact Nat.ne_of_gt (blk_lt (g := gb134) (o := .cells #[.bool false,.string (⟨#[49,50,51]⟩ : ByteArray),.int .i64 2] 23 (0,0)) (by (with_reducible repeat (first | refine blk_drewN ?_ _ | refine blk_drew ?_ | refine blk_alloc ?_ _));exact BK134.out)) : gb142 ≠ gb134));clear BK134;clear HB;have BK134 := n0_;have HB := n1_;have BK142 := n2_;have GW142 := n3_;have GE142 := n4_;have NB134_142 := n5_;have NB142_134 := n6_;clear n0_ n1_ n2_ n3_ n4_ n5_ n6_;clear hb hbox hg;have hnb83 := NB142_134.out;have hnc83 := NB134_142.out;have hcz84_0 : w82.cell? ⟨gb142,0,none⟩ = some (.bool false) := (blk_cell BK142.out 0).trans rfl;have hcz84_1 : w82.cell? ⟨gb142,1,none⟩ = some (.string (⟨#[]⟩ : ByteArray)) := (blk_cell BK142.out 1).trans rfl;have hcz84_2 : w82.cell? ⟨gb142,2,none⟩ = some (.int .i64 0) := (blk_cell BK142.out 2).trans rfl;have hfz84_0 := blk_frozen BK142.out 0;have hfz84_1 := blk_frozen BK142.out 1;have hfz84_2 := blk_frozen BK142.out 2) | ((with_reducible refine gate_callee (f := 13) rfl ?_);refine goesL_ (some 89) rfl rfl Tryz.func13 (by kernel_rfl) rfl #[.bool true,.string (⟨#[49,50,51,53]⟩ : ByteArray),.int .i64 1] rfl (by (try simp only [List.map_toArray,List.map_cons,List.map_nil]);first | done | rfl | (simp only [List.length_drop,List.length_take];rfl)) ?_;(with_reducible refine (tabardlaw7_dec.calls true (⟨#[49,50,51,53]⟩ : ByteArray) 1 true (⟨#[49,50,51,53]⟩ : ByteArray) 1 _ A11.out).mono ?_);rintro e w85 ⟨rfl,hb⟩;refine ⟨_,rfl,?_⟩;have n0_ := Aside0.mk (blk_below (g := gb134) (o := .cells #[.bool false,.string (⟨#[49,50,51]⟩ : ByteArray),.int .i64 2] 23 (0,0)) (by (with_reducible repeat (first | refine blk_drewN ?_ _ | refine blk_drew ?_ | refine blk_alloc ?_ _));refine blk_far ?_ NB134_142.out _;(with_reducible repeat (first | refine blk_drewN ?_ _ | refine blk_drew ?_ | refine blk_alloc ?_ _));refine blk_far ?_ NB134_142.out _;(with_reducible repeat (first | refine blk_drewN ?_ _ | refine blk_drew ?_ | refine blk_alloc ?_ _));refine blk_far ?_ NB134_142.out _;(with_reducible repeat (first | refine blk_drewN ?_ _ | refine blk_drew ?_ | refine blk_alloc ?_ _));exact BK134.out) hb);have n1_ := Aside0.mk (blk_below (g := gb142) (o := .cells #[.bool false,.string (⟨#[49,50,52]⟩ : ByteArray),.int .i64 2] 23 (0,0)) (by (with_reducible repeat (first | refine blk_drewN ?_ _ | refine blk_drew ?_ | refine blk_alloc ?_ _));refine blk_put (cs := #[.bool false,.string (⟨#[49,50,52]⟩ : ByteArray),.int .i64 0]) ?_ 2 _ rfl;(with_reducible repeat (first | refine blk_drewN ?_ _ | refine blk_drew ?_ | refine blk_alloc ?_ _));refine blk_put (cs := #[.bool false,.string (⟨#[]⟩ : ByteArray),.int .i64 0]) ?_ 1 _ rfl;(with_reducible repeat (first | refine blk_drewN ?_ _ | refine blk_drew ?_ | refine blk_alloc ?_ _));refine blk_put (cs := #[.bool false,.string (⟨#[]⟩ : ByteArray),.int .i64 0]) ?_ 0 _ rfl;(with_reducible repeat (first | refine blk_drewN ?_ _ | refine blk_drew ?_ | refine blk_alloc ?_ _));exact BK142.out) hb);have n2_ := Aside0.mk (below_step (by repeat (first | (with_reducible first | exact HB.out | apply below_alloc | apply pw_below_drewN | apply below_drew1 | refine below_set ?_ GE134.out | refine below_set ?_ GE142.out) | exact HB.out)) hb);clear BK134;clear BK142;clear HB;have BK134 := n0_;have BK142 := n1_;have HB := n2_;clear n0_ n1_ n2_;(try clear hb);(try clear hb2);(try clear hk);(try clear hi)) | ((with_reducible refine gate_callee (f := 14) rfl ?_);refine goesL_ (some 90) rfl rfl Tryz.func14 (by kernel_rfl) rfl #[.agg #[.bool true,.string (⟨#[49,50,51,53]⟩ : ByteArray),.int .i64 1],.int .i64 3,.int .i64 4] rfl (by (try simp only [List.map_toArray,List.map_cons,List.map_nil]);first | done | rfl | (simp only [List.length_drop,List.length_take];rfl)) ?_;(with_reducible refine (decimal_Sig.calls k true (⟨#[49,50,51,53]⟩ : ByteArray) 1 3 4 true (⟨#[49,50,52]⟩ : ByteArray) 2 0 _ A12.out).mono ?_);rintro e w86 ⟨rfl,hb⟩;refine ⟨_,rfl,?_⟩;have n0_ := Aside0.mk (blk_below (g := gb134) (o := .cells #[.bool false,.string (⟨#[49,50,51]⟩ : ByteArray),.int .i64 2] 23 (0,0)) (by (with_reducible repeat (first | refine blk_drewN ?_ _ | refine blk_drew ?_ | refine blk_alloc ?_ _));exact BK134.out) hb);have n1_ := Aside0.mk (blk_below (g := gb142) (o := .cells #[.bool false,.string (⟨#[49,50,52]⟩ : ByteArray),.int .i64 2] 23 (0,0)) (by (with_reducible repeat (first | refine blk_drewN ?_ _ | refine blk_drew ?_ | refine blk_alloc ?_ _));exact BK142.out) hb);have n2_ := Aside0.mk (below_step (by repeat (first | (with_reducible first | exact HB.out | apply below_alloc | apply pw_below_drewN | apply below_drew1 | refine below_set ?_ GE134.out | refine below_set ?_ GE142.out) | exact HB.out)) hb);clear BK134;clear BK142;clear HB;have BK134 := n0_;have BK142 := n1_;have HB := n2_;clear n0_ n1_ n2_;(try clear hb);(try clear hb2);(try clear hk);(try clear hi)) | ((with_reducible refine gate_dst (N := 13) rfl ?_);refine box_event ?hg (N := 13) ?hd (cs := #[.bool false,.string (⟨#[]⟩ : ByteArray),.int .i64 0]) (t := 23) ?hr ?_;(case hd => rfl);(case hg => rfl);(case hr => first | (go_simp;done) | (go_simp;rfl));intro gb150 hg w87 hbox hb;have n0_ := Aside0.mk (blk_below (g := gb134) (o := .cells #[.bool false,.string (⟨#[49,50,51]⟩ : ByteArray),.int .i64 2] 23 (0,0)) (by (with_reducible repeat (first | refine blk_drewN ?_ _ | refine blk_drew ?_ | refine blk_alloc ?_ _));exact BK134.out) hb);have n1_ := Aside0.mk (blk_below (g := gb142) (o := .cells #[.bool false,.string (⟨#[49,50,52]⟩ : ByteArray),.int .i64 2] 23 (0,0)) (by (with_reducible repeat (first | refine blk_drewN ?_ _ | refine blk_drew ?_ | refine blk_alloc ?_ _));exact BK142.out) hb);have n2_ := Aside0.mk (below_step (by repeat (first | (with_reducible first | exact HB.out | apply below_alloc | apply pw_below_drewN | apply below_drew1 | refine below_set ?_ GE134.out | refine below_set ?_ GE142.out) | exact HB.out)) hb);have n3_ := Aside0.mk (hbox);have n4_ := Aside0.mk ((by rw [hg];exact (below_size (by repeat (first | (with_reducible first | exact HB.out | apply below_alloc | apply pw_below_drewN | apply below_drew1 | refine below_set ?_ GE134.out | refine below_set ?_ GE142.out) | exact HB.out))) : w.heap.size ≤ gb150));have n5_ := Aside0.mk ((by rw [hg];exact (below_size (by repeat (first | (with_reducible first | exact HB.out | apply below_alloc | apply pw_below_drewN | apply below_drew1 | refine below_set ?_ GE134.out | refine below_set ?_ GE142.out) | exact HB.out))) : w.heap.size ≤ gb150));have n6_ := Aside0.mk ((by rw [hg];exact Nat.ne_of_lt (blk_lt (g := gb134) (o := .cells #[.bool false,.string (⟨#[49,50,51]⟩ : ByteArray),.int .i64 2] 23 (0,0)) (by (with_reducible repeat (first | refine blk_drewN ?_ _ | refine blk_drew ?_ | refine blk_alloc ?_ _));exact BK134.out)) : gb134 ≠ gb150));have n7_ := Aside0.mk ((by rw [hg];exact Nat.ne_of_gt (blk_lt (g := gb134) (o := .cells #[.bool false,.string (⟨#[49,50,51]⟩ : ByteArray),.int .i64 2] 23 (0,0)) (by (with_reducible repeat (first | refine blk_drewN ?_ _ | refine blk_drew ?_ | refine blk_alloc ?_ _));exact BK134.out)) : gb150 ≠ gb134));have n8_ := Aside0.mk ((by rw [hg];exact Nat.ne_of_lt (blk_lt (g := gb142) (o := .cells #[.bool false,.string (⟨#[49,50,52]⟩ : ByteArray),.int .i64 2] 23 (0,0)) (by (with_reducible repeat (first | refine blk_drewN ?_ _ | refine blk_drew ?_ | refine blk_alloc ?_ _));exact BK142.out)) : gb142 ≠ gb150));have n9_ := Aside0.mk ((by rw [hg];exact Nat.ne_of_gt (blk_lt (g := gb142) (o := .cells #[.bool false,.string (⟨#[49,50,52]⟩ : ByteArray),.int .i64 2] 23 (0,0)) (by (with_reducible repeat (first | refine blk_drewN ?_ _ | refine blk_drew ?_ | refine blk_alloc ?_ _));exact BK142.out)) : gb150 ≠ gb142));clear BK134;clear BK142;clear HB;have BK134 := n0_;have BK142 := n1_;have HB := n2_;have BK150 := n3_;have GW150 := n4_;have GE150 := n5_;have NB134_150 := n6_;have NB150_134 := n7_;have NB142_150 := n8_;have NB150_142 := n9_;clear n0_ n1_ n2_ n3_ n4_ n5_ n6_ n7_ n8_ n9_;clear hb hbox hg;have hnb88 := NB150_134.out;have hnc88 := NB134_150.out;have hnb89 := NB150_142.out;have hnc89 := NB142_150.out;have hcz90_0 : w87.cell? ⟨gb150,0,none⟩ = some (.bool false) := (blk_cell BK150.out 0).trans rfl;have hcz90_1 : w87.cell? ⟨gb150,1,none⟩ = some (.string (⟨#[]⟩ : ByteArray)) := (blk_cell BK150.out 1).trans rfl;have hcz90_2 : w87.cell? ⟨gb150,2,none⟩ = some (.int .i64 0) := (blk_cell BK150.out 2).trans rfl;have hfz90_0 := blk_frozen BK150.out 0;have hfz90_1 := blk_frozen BK150.out 1;have hfz90_2 := blk_frozen BK150.out 2) | ((with_reducible refine gate_callee (f := 13) rfl ?_);refine goesL_ (some 94) rfl rfl Tryz.func13 (by kernel_rfl) rfl #[.bool false,.string (⟨#[57,57,57]⟩ : ByteArray),.int .i64 (-2)] rfl (by (try simp only [List.map_toArray,List.map_cons,List.map_nil]);first | done | rfl | (simp only [List.length_drop,List.length_take];rfl)) ?_;(with_reducible refine (tabardlaw7_dec.calls false (⟨#[57,57,57]⟩ : ByteArray) (-2) false (⟨#[57,57,57]⟩ : ByteArray) (-2) _ A13.out).mono ?_);rintro e w91 ⟨rfl,hb⟩;refine ⟨_,rfl,?_⟩;have n0_ := Aside0.mk (blk_below (g := gb134) (o := .cells #[.bool false,.string (⟨#[49,50,51]⟩ : ByteArray),.int .i64 2] 23 (0,0)) (by (with_reducible repeat (first | refine blk_drewN ?_ _ | refine blk_drew ?_ | refine blk_alloc ?_ _));refine blk_far ?_ NB134_150.out _;(with_reducible repeat (first | refine blk_drewN ?_ _ | refine blk_drew ?_ | refine blk_alloc ?_ _));refine blk_far ?_ NB134_150.out _;(with_reducible repeat (first | refine blk_drewN ?_ _ | refine blk_drew ?_ | refine blk_alloc ?_ _));refine blk_far ?_ NB134_150.out _;(with_reducible repeat (first | refine blk_drewN ?_ _ | refine blk_drew ?_ | refine blk_alloc ?_ _));exact BK134.out) hb);have n1_ := Aside0.mk (blk_below (g := gb142) (o := .cells #[.bool false,.string (⟨#[49,50,52]⟩ : ByteArray),.int .i64 2] 23 (0,0)) (by (with_reducible repeat (first | refine blk_drewN ?_ _ | refine blk_drew ?_ | refine blk_alloc ?_ _));refine blk_far ?_ NB142_150.out _;(with_reducible repeat (first | refine blk_drewN ?_ _ | refine blk_drew ?_ | refine blk_alloc ?_ _));refine blk_far ?_ NB142_150.out _;(with_reducible repeat (first | refine blk_drewN ?_ _ | refine blk_drew ?_ | refine blk_alloc ?_ _));refine blk_far ?_ NB142_150.out _;(with_reducible repeat (first | refine blk_drewN ?_ _ | refine blk_drew ?_ | refine blk_alloc ?_ _));exact BK142.out) hb);have n2_ := Aside0.mk (blk_below (g := gb150) (o := .cells #[.bool true,.string (⟨#[49,50,52]⟩ : ByteArray),.int .i64 2] 23 (0,0)) (by (with_reducible repeat (first | refine blk_drewN ?_ _ | refine blk_drew ?_ | refine blk_alloc ?_ _));refine blk_put (cs := #[.bool true,.string (⟨#[49,50,52]⟩ : ByteArray),.int .i64 0]) ?_ 2 _ rfl;(with_reducible repeat (first | refine blk_drewN ?_ _ | refine blk_drew ?_ | refine blk_alloc ?_ _));refine blk_put (cs := #[.bool true,.string (⟨#[]⟩ : ByteArray),.int .i64 0]) ?_ 1 _ rfl;(with_reducible repeat (first | refine blk_drewN ?_ _ | refine blk_drew ?_ | refine blk_alloc ?_ _));refine blk_put (cs := #[.bool false,.string (⟨#[]⟩ : ByteArray),.int .i64 0]) ?_ 0 _ rfl;(with_reducible repeat (first | refine blk_drewN ?_ _ | refine blk_drew ?_ | refine blk_alloc ?_ _));exact BK150.out) hb);have n3_ := Aside0.mk (below_step (by repeat (first | (with_reducible first | exact HB.out | apply below_alloc | apply pw_below_drewN | apply below_drew1 | refine below_set ?_ GE134.out | refine below_set ?_ GE142.out | refine below_set ?_ GE150.out) | exact HB.out)) hb);clear BK134;clear BK142;clear BK150;clear HB;have BK134 := n0_;have BK142 := n1_;have BK150 := n2_;have HB := n3_;clear n0_ n1_ n2_ n3_;(try clear hb);(try clear hb2);(try clear hk);(try clear hi)) | ((with_reducible refine gate_callee (f := 14) rfl ?_);refine goesL_ (some 95) rfl rfl Tryz.func14 (by kernel_rfl) rfl #[.agg #[.bool false,.string (⟨#[57,57,57]⟩ : ByteArray),.int .i64 (-2)],.int .i64 1,.int .i64 3] rfl (by (try simp only [List.map_toArray,List.map_cons,List.map_nil]);first | done | rfl | (simp only [List.length_drop,List.length_take];rfl)) ?_;(with_reducible refine (decimal_Sig.calls k false (⟨#[57,57,57]⟩ : ByteArray) (-2) 1 3 false (⟨#[49]⟩ : ByteArray) 1 0 _ A14.out).mono ?_);rintro e w92 ⟨rfl,hb⟩;refine ⟨_,rfl,?_⟩;have n0_ := Aside0.mk (blk_below (g := gb134) (o := .cells #[.bool false,.string (⟨#[49,50,51]⟩ : ByteArray),.int .i64 2] 23 (0,0)) (by (with_reducible repeat (first | refine blk_drewN ?_ _ | refine blk_drew ?_ | refine blk_alloc ?_ _));exact BK134.out) hb);have n1_ := Aside0.mk (blk_below (g := gb142) (o := .cells #[.bool false,.string (⟨#[49,50,52]⟩ : ByteArray),.int .i64 2] 23 (0,0)) (by (with_reducible repeat (first | refine blk_drewN ?_ _ | refine blk_drew ?_ | refine blk_alloc ?_ _));exact BK142.out) hb);have n2_ := Aside0.mk (blk_below (g := gb150) (o := .cells #[.bool true,.string (⟨#[49,50,52]⟩ : ByteArray),.int .i64 2] 23 (0,0)) (by (with_reducible repeat (first | refine blk_drewN ?_ _ | refine blk_drew ?_ | refine blk_alloc ?_ _));exact BK150.out) hb);have n3_ := Aside0.mk (below_step (by repeat (first | (with_reducible first | exact HB.out | apply below_alloc | apply pw_below_drewN | apply below_drew1 | refine below_set ?_ GE134.out | refine below_set ?_ GE142.out | refine below_set ?_ GE150.out) | exact HB.out)) hb);clear BK134;clear BK142;clear BK150;clear HB;have BK134 := n0_;have BK142 := n1_;have BK150 := n2_;have HB := n3_;clear n0_ n1_ n2_ n3_;(try clear hb);(try clear hb2);(try clear hk);(try clear hi)) | ((with_reducible refine gate_dst (N := 15) rfl ?_);refine box_event ?hg (N := 15) ?hd (cs := #[.bool false,.string (⟨#[]⟩ : ByteArray),.int .i64 0]) (t := 23) ?hr ?_;(case hd => rfl);(case hg => rfl);(case hr => first | (go_simp;done) | (go_simp;rfl));intro gb158 hg w93 hbox hb;have n0_ := Aside0.mk (blk_below (g := gb134) (o := .cells #[.bool false,.string (⟨#[49,50,51]⟩ : ByteArray),.int .i64 2] 23 (0,0)) (by (with_reducible repeat (first | refine blk_drewN ?_ _ | refine blk_drew ?_ | refine blk_alloc ?_ _));exact BK134.out) hb);have n1_ := Aside0.mk (blk_below (g := gb142) (o := .cells #[.bool false,.string (⟨#[49,50,52]⟩ : ByteArray),.int .i64 2] 23 (0,0)) (by (with_reducible repeat (first | refine blk_drewN ?_ _ | refine blk_drew ?_ | refine blk_alloc ?_ _));exact BK142.out) hb);have n2_ := Aside0.mk (blk_below (g := gb150) (o := .cells #[.bool true,.string (⟨#[49,50,52]⟩ : ByteArray),.int .i64 2] 23 (0,0)) (by (with_reducible repeat (first | refine blk_drewN ?_ _ | refine blk_drew ?_ | refine blk_alloc ?_ _));exact BK150.out) hb);have n3_ := Aside0.mk (below_step (by repeat (first | (with_reducible first | exact HB.out | apply below_alloc | apply pw_below_drewN | apply below_drew1 | refine below_set ?_ GE134.out | refine below_set ?_ GE142.out | refine below_set ?_ GE150.out) | exact HB.out)) hb);have n4_ := Aside0.mk (hbox);have n5_ := Aside0.mk ((by rw [hg];exact (below_size (by repeat (first | (with_reducible first | exact HB.out | apply below_alloc | apply pw_below_drewN | apply below_drew1 | refine below_set ?_ GE134.out | refine below_set ?_ GE142.out | refine below_set ?_ GE150.out) | exact HB.out))) : w.heap.size ≤ gb158));have n6_ := Aside0.mk ((by rw [hg];exact (below_size (by repeat (first | (with_reducible first | exact HB.out | apply below_alloc | apply pw_below_drewN | apply below_drew1 | refine below_set ?_ GE134.out | refine below_set ?_ GE142.out | refine below_set ?_ GE150.out) | exact HB.out))) : w.heap.size ≤ gb158));have n7_ := Aside0.mk ((by rw [hg];exact Nat.ne_of_lt (blk_lt (g := gb134) (o := .cells #[.bool false,.string (⟨#[49,50,51]⟩ : ByteArray),.int .i64 2] 23 (0,0)) (by (with_reducible repeat (first | refine blk_drewN ?_ _ | refine blk_drew ?_ | refine blk_alloc ?_ _));exact BK134.out)) : gb134 ≠ gb158));have n8_ := Aside0.mk ((by rw [hg];exact Nat.ne_of_gt (blk_lt (g := gb134) (o := .cells #[.bool false,.string (⟨#[49,50,51]⟩ : ByteArray),.int .i64 2] 23 (0,0)) (by (with_reducible repeat (first | refine blk_drewN ?_ _ | refine blk_drew ?_ | refine blk_alloc ?_ _));exact BK134.out)) : gb158 ≠ gb134));have n9_ := Aside0.mk ((by rw [hg];exact Nat.ne_of_lt (blk_lt (g := gb142) (o := .cells #[.bool false,.string (⟨#[49,50,52]⟩ : ByteArray),.int .i64 2] 23 (0,0)) (by (with_reducible repeat (first | refine blk_drewN ?_ _ | refine blk_drew ?_ | refine blk_alloc ?_ _));exact BK142.out)) : gb142 ≠ gb158));have n10_ := Aside0.mk ((by rw [hg];exact Nat.ne_of_gt (blk_lt (g := gb142) (o := .cells #[.bool false,.string (⟨#[49,50,52]⟩ : ByteArray),.int .i64 2] 23 (0,0)) (by (with_reducible repeat (first | refine blk_drewN ?_ _ | refine blk_drew ?_ | refine blk_alloc ?_ _));exact BK142.out)) : gb158 ≠ gb142));have n11_ := Aside0.mk ((by rw [hg];exact Nat.ne_of_lt (blk_lt (g := gb150) (o := .cells #[.bool true,.string (⟨#[49,50,52]⟩ : ByteArray),.int .i64 2] 23 (0,0)) (by (with_reducible repeat (first | refine blk_drewN ?_ _ | refine blk_drew ?_ | refine blk_alloc ?_ _));exact BK150.out)) : gb150 ≠ gb158));have n12_ := Aside0.mk ((by rw [hg];exact Nat.ne_of_gt (blk_lt (g := gb150) (o := .cells #[.bool true,.string (⟨#[49,50,52]⟩ : ByteArray),.int .i64 2] 23 (0,0)) (by (with_reducible repeat (first | refine blk_drewN ?_ _ | refine blk_drew ?_ | refine blk_alloc ?_ _));exact BK150.out)) : gb158 ≠ gb150));clear BK134;clear BK142;clear BK150;clear HB;have BK134 := n0_;have BK142 := n1_;have BK150 := n2_;have HB := n3_;have BK158 := n4_;have GW158 := n5_;have GE158 := n6_;have NB134_158 := n7_;have NB158_134 := n8_;have NB142_158 := n9_;have NB158_142 := n10_;have NB150_158 := n11_;have NB158_150 := n12_;clear n0_ n1_ n2_ n3_ n4_ n5_ n6_ n7_ n8_ n9_ n10_ n11_ n12_;clear hb hbox hg;have hnb94 := NB158_134.out;have hnc94 := NB134_158.out;have hnb95 := NB158_142.out;have hnc95 := NB142_158.out;have hnb96 := NB158_150.out;have hnc96 := NB150_158.out;have hcz97_0 : w93.cell? ⟨gb158,0,none⟩ = some (.bool false) := (blk_cell BK158.out 0).trans rfl;have hcz97_1 : w93.cell? ⟨gb158,1,none⟩ = some (.string (⟨#[]⟩ : ByteArray)) := (blk_cell BK158.out 1).trans rfl;have hcz97_2 : w93.cell? ⟨gb158,2,none⟩ = some (.int .i64 0) := (blk_cell BK158.out 2).trans rfl;have hfz97_0 := blk_frozen BK158.out 0;have hfz97_1 := blk_frozen BK158.out 1;have hfz97_2 := blk_frozen BK158.out 2))
 have n0_ : Aside0 ((((w93.setCell ⟨gb158,0,none⟩ (.bool false)).setCell ⟨gb158,1,none⟩ (.string (⟨#[49]⟩ : ByteArray))).setCell ⟨gb158,2,none⟩ (.int .i64 1)).heap[gb134]? = some (.cells #[.bool false,.string (⟨#[49,50,51]⟩ : ByteArray),.int .i64 2] 23 (0,0))) := ⟨by (with_reducible repeat (first | refine blk_drewN ?_ _ | refine blk_drew ?_ | refine blk_alloc ?_ _));refine blk_far ?_ NB134_158.out _;(with_reducible repeat (first | refine blk_drewN ?_ _ | refine blk_drew ?_ | refine blk_alloc ?_ _));refine blk_far ?_ NB134_158.out _;(with_reducible repeat (first | refine blk_drewN ?_ _ | refine blk_drew ?_ | refine blk_alloc ?_ _));refine blk_far ?_ NB134_158.out _;(with_reducible repeat (first | refine blk_drewN ?_ _ | refine blk_drew ?_ | refine blk_alloc ?_ _));exact BK134.out⟩
 have n1_ : Aside0 ((((w93.setCell ⟨gb158,0,none⟩ (.bool false)).setCell ⟨gb158,1,none⟩ (.string (⟨#[49]⟩ : ByteArray))).setCell ⟨gb158,2,none⟩ (.int .i64 1)).heap[gb142]? = some (.cells #[.bool false,.string (⟨#[49,50,52]⟩ : ByteArray),.int .i64 2] 23 (0,0))) := ⟨by (with_reducible repeat (first | refine blk_drewN ?_ _ | refine blk_drew ?_ | refine blk_alloc ?_ _));refine blk_far ?_ NB142_158.out _;(with_reducible repeat (first | refine blk_drewN ?_ _ | refine blk_drew ?_ | refine blk_alloc ?_ _));refine blk_far ?_ NB142_158.out _;(with_reducible repeat (first | refine blk_drewN ?_ _ | refine blk_drew ?_ | refine blk_alloc ?_ _));refine blk_far ?_ NB142_158.out _;(with_reducible repeat (first | refine blk_drewN ?_ _ | refine blk_drew ?_ | refine blk_alloc ?_ _));exact BK142.out⟩
 have n2_ : Aside0 ((((w93.setCell ⟨gb158,0,none⟩ (.bool false)).setCell ⟨gb158,1,none⟩ (.string (⟨#[49]⟩ : ByteArray))).setCell ⟨gb158,2,none⟩ (.int .i64 1)).heap[gb150]? = some (.cells #[.bool true,.string (⟨#[49,50,52]⟩ : ByteArray),.int .i64 2] 23 (0,0))) := ⟨by (with_reducible repeat (first | refine blk_drewN ?_ _ | refine blk_drew ?_ | refine blk_alloc ?_ _));refine blk_far ?_ NB150_158.out _;(with_reducible repeat (first | refine blk_drewN ?_ _ | refine blk_drew ?_ | refine blk_alloc ?_ _));refine blk_far ?_ NB150_158.out _;(with_reducible repeat (first | refine blk_drewN ?_ _ | refine blk_drew ?_ | refine blk_alloc ?_ _));refine blk_far ?_ NB150_158.out _;(with_reducible repeat (first | refine blk_drewN ?_ _ | refine blk_drew ?_ | refine blk_alloc ?_ _));exact BK150.out⟩
 have n3_ : Aside0 ((((w93.setCell ⟨gb158,0,none⟩ (.bool false)).setCell ⟨gb158,1,none⟩ (.string (⟨#[49]⟩ : ByteArray))).setCell ⟨gb158,2,none⟩ (.int .i64 1)).heap[gb158]? = some (.cells #[.bool false,.string (⟨#[49]⟩ : ByteArray),.int .i64 1] 23 (0,0))) := ⟨by (with_reducible repeat (first | refine blk_drewN ?_ _ | refine blk_drew ?_ | refine blk_alloc ?_ _));refine blk_put (cs := #[.bool false,.string (⟨#[49]⟩ : ByteArray),.int .i64 0]) ?_ 2 _ rfl;(with_reducible repeat (first | refine blk_drewN ?_ _ | refine blk_drew ?_ | refine blk_alloc ?_ _));refine blk_put (cs := #[.bool false,.string (⟨#[]⟩ : ByteArray),.int .i64 0]) ?_ 1 _ rfl;(with_reducible repeat (first | refine blk_drewN ?_ _ | refine blk_drew ?_ | refine blk_alloc ?_ _));refine blk_put (cs := #[.bool false,.string (⟨#[]⟩ : ByteArray),.int .i64 0]) ?_ 0 _ rfl;(with_reducible repeat (first | refine blk_drewN ?_ _ | refine blk_drew ?_ | refine blk_alloc ?_ _));exact BK158.out⟩
 have n4_ : Aside0 (Below w.heap.size w (((w93.setCell ⟨gb158,0,none⟩ (.bool false)).setCell ⟨gb158,1,none⟩ (.string (⟨#[49]⟩ : ByteArray))).setCell ⟨gb158,2,none⟩ (.int .i64 1))) := ⟨by repeat (first | (with_reducible first | exact HB.out | apply below_alloc | apply pw_below_drewN | apply below_drew1 | refine below_set ?_ GE134.out | refine below_set ?_ GE142.out | refine below_set ?_ GE150.out | refine below_set ?_ GE158.out) | exact HB.out)⟩
 (try clear BK134)
 (try clear BK142)
 (try clear BK150)
 (try clear BK158)
 (try clear HB)
 generalize (((w93.setCell ⟨gb158,0,none⟩ (.bool false)).setCell ⟨gb158,1,none⟩ (.string (⟨#[49]⟩ : ByteArray))).setCell ⟨gb158,2,none⟩ (.int .i64 1)) = w98 at n0_ n1_ n2_ n3_ n4_ ⊢
 have BK134 := n0_
 have BK142 := n1_
 have BK150 := n2_
 have BK158 := n3_
 have HB := n4_
 clear n0_ n1_ n2_ n3_ n4_
 have n0_ := Aside0.mk (blk_drew BK134.out)
 have n1_ := Aside0.mk (blk_drew BK142.out)
 have n2_ := Aside0.mk (blk_drew BK150.out)
 have n3_ := Aside0.mk (blk_drew BK158.out)
 have n4_ := Aside0.mk (below_drew1 HB.out)
 clear BK134
 clear BK142
 clear BK150
 clear BK158
 clear HB
 have BK134 := n0_
 have BK142 := n1_
 have BK150 := n2_
 have BK158 := n3_
 have HB := n4_
 clear n0_ n1_ n2_ n3_ n4_
 refine start_ (n := 34) (S := fun w' => w'.cell? ⟨gb134,0,none⟩ = some (.bool false) ∧ w'.cell? ⟨gb134,1,none⟩ = some (.string (⟨#[49,50,51]⟩ : ByteArray)) ∧ w'.cell? ⟨gb134,2,none⟩ = some (.int .i64 2) ∧ w'.cell? ⟨gb142,0,none⟩ = some (.bool false) ∧ w'.cell? ⟨gb142,1,none⟩ = some (.string (⟨#[49,50,52]⟩ : ByteArray)) ∧ w'.cell? ⟨gb142,2,none⟩ = some (.int .i64 2) ∧ w'.cell? ⟨gb150,0,none⟩ = some (.bool true) ∧ w'.cell? ⟨gb150,1,none⟩ = some (.string (⟨#[49,50,52]⟩ : ByteArray)) ∧ w'.cell? ⟨gb150,2,none⟩ = some (.int .i64 2) ∧ w'.cell? ⟨gb158,0,none⟩ = some (.bool false) ∧ w'.cell? ⟨gb158,1,none⟩ = some (.string (⟨#[49]⟩ : ByteArray)) ∧ w'.cell? ⟨gb158,2,none⟩ = some (.int .i64 1)) (ds := []) #[false,false,false,false,false,false,false,false,false,false,false,false,false,false,false,false,false,false,false,false,false,false,false,false,false,false,false,false,false,false,false,false,false,false] (by kernel_rfl) rfl rfl ⟨(blk_cell BK134.out 0).trans rfl,(blk_cell BK134.out 1).trans rfl,(blk_cell BK134.out 2).trans rfl,(blk_cell BK142.out 0).trans rfl,(blk_cell BK142.out 1).trans rfl,(blk_cell BK142.out 2).trans rfl,(blk_cell BK150.out 0).trans rfl,(blk_cell BK150.out 1).trans rfl,(blk_cell BK150.out 2).trans rfl,(blk_cell BK158.out 0).trans rfl,(blk_cell BK158.out 1).trans rfl,(blk_cell BK158.out 2).trans rfl⟩ (fun hHeld => ?_);refine with_tabW tabardlaw7_shown.tab11 tabardlaw7_shown.bits11 (fun HT_ HW_ => ?_)
 generalize w98.drew = w99 at BK134 BK142 BK150 BK158 HB hHeld ⊢
 refine take_ (i := 0) (N := some 98) (v := ?_) (a' := ?_) #[true,false,false,false,false,false,false,false,false,false,false,false,false,false,false,false,false,false,false,false,false,false,false,false,false,false,false,false,false,false,false,false,false,false] rfl rfl (take_ofW HT_.out HW_.out (by kernel_rfl)) (fun _ _ _ h => h) (Or.inl ⟨by rfl,?_⟩) hHeld ?_ ?_
 rotate_left
 ·rintro w' ⟨s0,s1,s2,s3,s4,s5,s6,s7,s8,s9,s10,s11⟩
  go_simp
  with_reducible rfl
 rotate_left
 ·simp only [Act.put,List.setIfInBounds_toArray,List.set_cons_zero,List.set_cons_succ,i64_w,i32_w]
  rfl
 refine one_ (i := 1) (N := some 99) #[true,true,false,false,false,false,false,false,false,false,false,false,false,false,false,false,false,false,false,false,false,false,false,false,false,false,false,false,false,false,false,false,false,false] rfl rfl (one_of HT_.out (by kernel_rfl)) (by decide) (fun K hK => ?_)
 refine goes_ Tryz.func13 (by kernel_rfl) rfl #[.bool false,.string (⟨#[49,50,51]⟩ : ByteArray),.int .i64 2] (by rfl) rfl rfl (by (try simp only [List.map_toArray,List.map_cons,List.map_nil]);first | done | rfl | (simp only [List.length_drop,List.length_take];rfl)) ?_
 with_reducible refine (tabardlaw7_dec.calls false (⟨#[49,50,51]⟩ : ByteArray) 2 false (⟨#[49,50,51]⟩ : ByteArray) 2 _ A15.out).mono ?_
 rintro e w100 ⟨rfl,hb⟩
 refine ⟨_,rfl,?_⟩
 have n0_ := Aside0.mk (blk_below (g := gb134) (o := .cells #[.bool false,.string (⟨#[49,50,51]⟩ : ByteArray),.int .i64 2] 23 (0,0)) (by (with_reducible repeat (first | refine blk_drewN ?_ _ | refine blk_drew ?_ | refine blk_alloc ?_ _));exact BK134.out) hb)
 have n1_ := Aside0.mk (blk_below (g := gb142) (o := .cells #[.bool false,.string (⟨#[49,50,52]⟩ : ByteArray),.int .i64 2] 23 (0,0)) (by (with_reducible repeat (first | refine blk_drewN ?_ _ | refine blk_drew ?_ | refine blk_alloc ?_ _));exact BK142.out) hb)
 have n2_ := Aside0.mk (blk_below (g := gb150) (o := .cells #[.bool true,.string (⟨#[49,50,52]⟩ : ByteArray),.int .i64 2] 23 (0,0)) (by (with_reducible repeat (first | refine blk_drewN ?_ _ | refine blk_drew ?_ | refine blk_alloc ?_ _));exact BK150.out) hb)
 have n3_ := Aside0.mk (blk_below (g := gb158) (o := .cells #[.bool false,.string (⟨#[49]⟩ : ByteArray),.int .i64 1] 23 (0,0)) (by (with_reducible repeat (first | refine blk_drewN ?_ _ | refine blk_drew ?_ | refine blk_alloc ?_ _));exact BK158.out) hb)
 have n4_ := Aside0.mk (below_step (by repeat (first | (with_reducible first | exact HB.out | apply below_alloc | apply pw_below_drewN | apply below_drew1 | refine below_set ?_ GE134.out | refine below_set ?_ GE142.out | refine below_set ?_ GE150.out | refine below_set ?_ GE158.out) | exact HB.out)) hb)
 clear BK134
 clear BK142
 clear BK150
 clear BK158
 clear HB
 have BK134 := n0_
 have BK142 := n1_
 have BK150 := n2_
 have BK158 := n3_
 have HB := n4_
 clear n0_ n1_ n2_ n3_ n4_
 (try clear hb)
 (try clear hb2)
 (try clear hk)
 (try clear hi)
 refine hK.out _ _ ⟨(blk_cell BK134.out 0).trans rfl,(blk_cell BK134.out 1).trans rfl,(blk_cell BK134.out 2).trans rfl,(blk_cell BK142.out 0).trans rfl,(blk_cell BK142.out 1).trans rfl,(blk_cell BK142.out 2).trans rfl,(blk_cell BK150.out 0).trans rfl,(blk_cell BK150.out 1).trans rfl,(blk_cell BK150.out 2).trans rfl,(blk_cell BK158.out 0).trans rfl,(blk_cell BK158.out 1).trans rfl,(blk_cell BK158.out 2).trans rfl⟩ (fun hHeld => ?_)
 clear hK K
 refine norm_ (a' := ?_) ?_ ?_
 rotate_left
 ·show Act.put _ (some 99) _ = _
  simp only [Act.put,List.setIfInBounds_toArray,List.set_cons_zero,List.set_cons_succ,i64_w,i32_w]
  rfl
 refine pure_ (i := 2) (N := some 100) (v := ?_) (a' := ?_) #[true,true,true,false,false,false,false,false,false,false,false,false,false,false,false,false,false,false,false,false,false,false,false,false,false,false,false,false,false,false,false,false,false,false] rfl rfl (any_of HT_.out (by kernel_rfl)) (fun _ _ _ h => h) (Or.inl ⟨by rfl,?_⟩) ?_ ?_
 rotate_left
 ·intro w'
  go_simp
  with_reducible rfl
 rotate_left
 ·simp only [Act.put,List.setIfInBounds_toArray,List.set_cons_zero,List.set_cons_succ,i64_w,i32_w]
  rfl
 refine pure_ (i := 3) (N := some 101) (v := ?_) (a' := ?_) #[true,true,true,true,false,false,false,false,false,false,false,false,false,false,false,false,false,false,false,false,false,false,false,false,false,false,false,false,false,false,false,false,false,false] rfl rfl (any_of HT_.out (by kernel_rfl)) (fun _ _ _ h => h) (Or.inl ⟨by rfl,?_⟩) ?_ ?_
 rotate_left
 ·intro w'
  go_simp
  with_reducible rfl
 rotate_left
 ·simp only [Act.put,List.setIfInBounds_toArray,List.set_cons_zero,List.set_cons_succ,i64_w,i32_w]
  rfl
 refine pure_ (i := 4) (N := some 102) (v := ?_) (a' := ?_) #[true,true,true,true,true,false,false,false,false,false,false,false,false,false,false,false,false,false,false,false,false,false,false,false,false,false,false,false,false,false,false,false,false,false] rfl rfl (any_of HT_.out (by kernel_rfl)) (fun _ _ _ h => h) (Or.inl ⟨by rfl,?_⟩) ?_ ?_
 rotate_left
 ·intro w'
  go_simp
  with_reducible rfl
 rotate_left
 ·simp only [Act.put,List.setIfInBounds_toArray,List.set_cons_zero,List.set_cons_succ,i64_w,i32_w]
  rfl
 refine pure_ (i := 5) (N := some 103) (v := ?_) (a' := ?_) #[true,true,true,true,true,true,false,false,false,false,false,false,false,false,false,false,false,false,false,false,false,false,false,false,false,false,false,false,false,false,false,false,false,false] rfl rfl (any_of HT_.out (by kernel_rfl)) (fun _ _ _ h => h) (Or.inl ⟨by rfl,?_⟩) ?_ ?_
 rotate_left
 ·intro w'
  go_simp
  with_reducible rfl
 rotate_left
 ·simp only [Act.put,List.setIfInBounds_toArray,List.set_cons_zero,List.set_cons_succ,i64_w,i32_w]
  rfl
 refine pure_ (i := 6) (N := some 104) (v := ?_) (a' := ?_) #[true,true,true,true,true,true,true,false,false,false,false,false,false,false,false,false,false,false,false,false,false,false,false,false,false,false,false,false,false,false,false,false,false,false] rfl rfl (any_of HT_.out (by kernel_rfl)) (fun _ _ _ h => h) (Or.inl ⟨by rfl,?_⟩) ?_ ?_
 rotate_left
 ·intro w'
  go_simp
  with_reducible rfl
 rotate_left
 ·simp only [Act.put,List.setIfInBounds_toArray,List.set_cons_zero,List.set_cons_succ,i64_w,i32_w]
  rfl
 refine pure_ (i := 7) (N := some 105) (v := ?_) (a' := ?_) #[true,true,true,true,true,true,true,true,false,false,false,false,false,false,false,false,false,false,false,false,false,false,false,false,false,false,false,false,false,false,false,false,false,false] rfl rfl (any_of HT_.out (by kernel_rfl)) (fun _ _ _ h => h) (Or.inl ⟨by rfl,?_⟩) ?_ ?_
 rotate_left
 ·intro w'
  go_simp
  with_reducible rfl
 rotate_left
 ·simp only [Act.put,List.setIfInBounds_toArray,List.set_cons_zero,List.set_cons_succ,i64_w,i32_w]
  rfl
 refine take_ (i := 8) (N := some 106) (v := ?_) (a' := ?_) #[true,true,true,true,true,true,true,true,true,false,false,false,false,false,false,false,false,false,false,false,false,false,false,false,false,false,false,false,false,false,false,false,false,false] rfl rfl (take_ofW HT_.out HW_.out (by kernel_rfl)) (fun _ _ _ h => h) (Or.inl ⟨by rfl,?_⟩) hHeld ?_ ?_
 rotate_left
 ·rintro w' ⟨s0,s1,s2,s3,s4,s5,s6,s7,s8,s9,s10,s11⟩
  go_simp
  with_reducible rfl
 rotate_left
 ·simp only [Act.put,List.setIfInBounds_toArray,List.set_cons_zero,List.set_cons_succ,i64_w,i32_w]
  rfl
 refine one_ (i := 9) (N := some 107) #[true,true,true,true,true,true,true,true,true,true,false,false,false,false,false,false,false,false,false,false,false,false,false,false,false,false,false,false,false,false,false,false,false,false] rfl rfl (one_of HT_.out (by kernel_rfl)) (by decide) (fun K hK => ?_)
 refine goes_ Tryz.func13 (by kernel_rfl) rfl #[.bool false,.string (⟨#[49,50,52]⟩ : ByteArray),.int .i64 2] (by rfl) rfl rfl (by (try simp only [List.map_toArray,List.map_cons,List.map_nil]);first | done | rfl | (simp only [List.length_drop,List.length_take];rfl)) ?_
 with_reducible refine (tabardlaw7_dec.calls false (⟨#[49,50,52]⟩ : ByteArray) 2 false (⟨#[49,50,52]⟩ : ByteArray) 2 _ A16.out).mono ?_
 rintro e w101 ⟨rfl,hb⟩
 refine ⟨_,rfl,?_⟩
 have n0_ := Aside0.mk (blk_below (g := gb134) (o := .cells #[.bool false,.string (⟨#[49,50,51]⟩ : ByteArray),.int .i64 2] 23 (0,0)) (by (with_reducible repeat (first | refine blk_drewN ?_ _ | refine blk_drew ?_ | refine blk_alloc ?_ _));exact BK134.out) hb)
 have n1_ := Aside0.mk (blk_below (g := gb142) (o := .cells #[.bool false,.string (⟨#[49,50,52]⟩ : ByteArray),.int .i64 2] 23 (0,0)) (by (with_reducible repeat (first | refine blk_drewN ?_ _ | refine blk_drew ?_ | refine blk_alloc ?_ _));exact BK142.out) hb)
 have n2_ := Aside0.mk (blk_below (g := gb150) (o := .cells #[.bool true,.string (⟨#[49,50,52]⟩ : ByteArray),.int .i64 2] 23 (0,0)) (by (with_reducible repeat (first | refine blk_drewN ?_ _ | refine blk_drew ?_ | refine blk_alloc ?_ _));exact BK150.out) hb)
 have n3_ := Aside0.mk (blk_below (g := gb158) (o := .cells #[.bool false,.string (⟨#[49]⟩ : ByteArray),.int .i64 1] 23 (0,0)) (by (with_reducible repeat (first | refine blk_drewN ?_ _ | refine blk_drew ?_ | refine blk_alloc ?_ _));exact BK158.out) hb)
 have n4_ := Aside0.mk (below_step (by repeat (first | (with_reducible first | exact HB.out | apply below_alloc | apply pw_below_drewN | apply below_drew1 | refine below_set ?_ GE134.out | refine below_set ?_ GE142.out | refine below_set ?_ GE150.out | refine below_set ?_ GE158.out) | exact HB.out)) hb)
 clear BK134
 clear BK142
 clear BK150
 clear BK158
 clear HB
 have BK134 := n0_
 have BK142 := n1_
 have BK150 := n2_
 have BK158 := n3_
 have HB := n4_
 clear n0_ n1_ n2_ n3_ n4_
 (try clear hb)
 (try clear hb2)
 (try clear hk)
 (try clear hi)
 refine hK.out _ _ ⟨(blk_cell BK134.out 0).trans rfl,(blk_cell BK134.out 1).trans rfl,(blk_cell BK134.out 2).trans rfl,(blk_cell BK142.out 0).trans rfl,(blk_cell BK142.out 1).trans rfl,(blk_cell BK142.out 2).trans rfl,(blk_cell BK150.out 0).trans rfl,(blk_cell BK150.out 1).trans rfl,(blk_cell BK150.out 2).trans rfl,(blk_cell BK158.out 0).trans rfl,(blk_cell BK158.out 1).trans rfl,(blk_cell BK158.out 2).trans rfl⟩ (fun hHeld => ?_)
 clear hK K
 refine norm_ (a' := ?_) ?_ ?_
 rotate_left
 ·show Act.put _ (some 107) _ = _
  simp only [Act.put,List.setIfInBounds_toArray,List.set_cons_zero,List.set_cons_succ,i64_w,i32_w]
  rfl
 refine pure_ (i := 10) (N := some 108) (v := ?_) (a' := ?_) #[true,true,true,true,true,true,true,true,true,true,true,false,false,false,false,false,false,false,false,false,false,false,false,false,false,false,false,false,false,false,false,false,false,false] rfl rfl (any_of HT_.out (by kernel_rfl)) (fun _ _ _ h => h) (Or.inl ⟨by rfl,?_⟩) ?_ ?_
 rotate_left
 ·intro w'
  go_simp
  with_reducible rfl
 rotate_left
 ·simp only [Act.put,List.setIfInBounds_toArray,List.set_cons_zero,List.set_cons_succ,i64_w,i32_w]
  rfl
 refine pure_ (i := 11) (N := some 109) (v := ?_) (a' := ?_) #[true,true,true,true,true,true,true,true,true,true,true,true,false,false,false,false,false,false,false,false,false,false,false,false,false,false,false,false,false,false,false,false,false,false] rfl rfl (any_of HT_.out (by kernel_rfl)) (fun _ _ _ h => h) (Or.inl ⟨by rfl,?_⟩) ?_ ?_
 rotate_left
 ·intro w'
  go_simp
  with_reducible rfl
 rotate_left
 ·simp only [Act.put,List.setIfInBounds_toArray,List.set_cons_zero,List.set_cons_succ,i64_w,i32_w]
  rfl
 refine pure_ (i := 12) (N := some 110) (v := ?_) (a' := ?_) #[true,true,true,true,true,true,true,true,true,true,true,true,true,false,false,false,false,false,false,false,false,false,false,false,false,false,false,false,false,false,false,false,false,false] rfl rfl (any_of HT_.out (by kernel_rfl)) (fun _ _ _ h => h) (Or.inl ⟨by rfl,?_⟩) ?_ ?_
 rotate_left
 ·intro w'
  go_simp
  with_reducible rfl
 rotate_left
 ·simp only [Act.put,List.setIfInBounds_toArray,List.set_cons_zero,List.set_cons_succ,i64_w,i32_w]
  rfl
 refine pure_ (i := 13) (N := some 111) (v := ?_) (a' := ?_) #[true,true,true,true,true,true,true,true,true,true,true,true,true,true,false,false,false,false,false,false,false,false,false,false,false,false,false,false,false,false,false,false,false,false] rfl rfl (any_of HT_.out (by kernel_rfl)) (fun _ _ _ h => h) (Or.inl ⟨by rfl,?_⟩) ?_ ?_
 rotate_left
 ·intro w'
  go_simp
  with_reducible rfl
 rotate_left
 ·simp only [Act.put,List.setIfInBounds_toArray,List.set_cons_zero,List.set_cons_succ,i64_w,i32_w]
  rfl
 refine pure_ (i := 14) (N := some 112) (v := ?_) (a' := ?_) #[true,true,true,true,true,true,true,true,true,true,true,true,true,true,true,false,false,false,false,false,false,false,false,false,false,false,false,false,false,false,false,false,false,false] rfl rfl (any_of HT_.out (by kernel_rfl)) (fun _ _ _ h => h) (Or.inl ⟨by rfl,?_⟩) ?_ ?_
 rotate_left
 ·intro w'
  go_simp
  with_reducible rfl
 rotate_left
 ·simp only [Act.put,List.setIfInBounds_toArray,List.set_cons_zero,List.set_cons_succ,i64_w,i32_w]
  rfl
 refine pure_ (i := 15) (N := some 113) (v := ?_) (a' := ?_) #[true,true,true,true,true,true,true,true,true,true,true,true,true,true,true,true,false,false,false,false,false,false,false,false,false,false,false,false,false,false,false,false,false,false] rfl rfl (any_of HT_.out (by kernel_rfl)) (fun _ _ _ h => h) (Or.inl ⟨by rfl,?_⟩) ?_ ?_
 rotate_left
 ·intro w'
  go_simp
  with_reducible rfl
 rotate_left
 ·simp only [Act.put,List.setIfInBounds_toArray,List.set_cons_zero,List.set_cons_succ,i64_w,i32_w]
  rfl
 refine pure_ (i := 16) (N := some 114) (v := ?_) (a' := ?_) #[true,true,true,true,true,true,true,true,true,true,true,true,true,true,true,true,true,false,false,false,false,false,false,false,false,false,false,false,false,false,false,false,false,false] rfl rfl (any_of HT_.out (by kernel_rfl)) (fun _ _ _ h => h) (Or.inl ⟨by rfl,?_⟩) ?_ ?_
 rotate_left
 ·intro w'
  go_simp
  with_reducible rfl
 rotate_left
 ·simp only [Act.put,List.setIfInBounds_toArray,List.set_cons_zero,List.set_cons_succ,i64_w,i32_w]
  rfl
 refine take_ (i := 17) (N := some 115) (v := ?_) (a' := ?_) #[true,true,true,true,true,true,true,true,true,true,true,true,true,true,true,true,true,true,false,false,false,false,false,false,false,false,false,false,false,false,false,false,false,false] rfl rfl (take_ofW HT_.out HW_.out (by kernel_rfl)) (fun _ _ _ h => h) (Or.inl ⟨by rfl,?_⟩) hHeld ?_ ?_
 rotate_left
 ·rintro w' ⟨s0,s1,s2,s3,s4,s5,s6,s7,s8,s9,s10,s11⟩
  go_simp
  with_reducible rfl
 rotate_left
 ·simp only [Act.put,List.setIfInBounds_toArray,List.set_cons_zero,List.set_cons_succ,i64_w,i32_w]
  rfl
 refine one_ (i := 18) (N := some 116) #[true,true,true,true,true,true,true,true,true,true,true,true,true,true,true,true,true,true,true,false,false,false,false,false,false,false,false,false,false,false,false,false,false,false] rfl rfl (one_of HT_.out (by kernel_rfl)) (by decide) (fun K hK => ?_)
 refine goes_ Tryz.func13 (by kernel_rfl) rfl #[.bool true,.string (⟨#[49,50,52]⟩ : ByteArray),.int .i64 2] (by rfl) rfl rfl (by (try simp only [List.map_toArray,List.map_cons,List.map_nil]);first | done | rfl | (simp only [List.length_drop,List.length_take];rfl)) ?_
 with_reducible refine (tabardlaw7_dec.calls true (⟨#[49,50,52]⟩ : ByteArray) 2 true (⟨#[49,50,52]⟩ : ByteArray) 2 _ A17.out).mono ?_
 rintro e w102 ⟨rfl,hb⟩
 refine ⟨_,rfl,?_⟩
 have n0_ := Aside0.mk (blk_below (g := gb134) (o := .cells #[.bool false,.string (⟨#[49,50,51]⟩ : ByteArray),.int .i64 2] 23 (0,0)) (by (with_reducible repeat (first | refine blk_drewN ?_ _ | refine blk_drew ?_ | refine blk_alloc ?_ _));exact BK134.out) hb)
 have n1_ := Aside0.mk (blk_below (g := gb142) (o := .cells #[.bool false,.string (⟨#[49,50,52]⟩ : ByteArray),.int .i64 2] 23 (0,0)) (by (with_reducible repeat (first | refine blk_drewN ?_ _ | refine blk_drew ?_ | refine blk_alloc ?_ _));exact BK142.out) hb)
 have n2_ := Aside0.mk (blk_below (g := gb150) (o := .cells #[.bool true,.string (⟨#[49,50,52]⟩ : ByteArray),.int .i64 2] 23 (0,0)) (by (with_reducible repeat (first | refine blk_drewN ?_ _ | refine blk_drew ?_ | refine blk_alloc ?_ _));exact BK150.out) hb)
 have n3_ := Aside0.mk (blk_below (g := gb158) (o := .cells #[.bool false,.string (⟨#[49]⟩ : ByteArray),.int .i64 1] 23 (0,0)) (by (with_reducible repeat (first | refine blk_drewN ?_ _ | refine blk_drew ?_ | refine blk_alloc ?_ _));exact BK158.out) hb)
 have n4_ := Aside0.mk (below_step (by repeat (first | (with_reducible first | exact HB.out | apply below_alloc | apply pw_below_drewN | apply below_drew1 | refine below_set ?_ GE134.out | refine below_set ?_ GE142.out | refine below_set ?_ GE150.out | refine below_set ?_ GE158.out) | exact HB.out)) hb)
 clear BK134
 clear BK142
 clear BK150
 clear BK158
 clear HB
 have BK134 := n0_
 have BK142 := n1_
 have BK150 := n2_
 have BK158 := n3_
 have HB := n4_
 clear n0_ n1_ n2_ n3_ n4_
 (try clear hb)
 (try clear hb2)
 (try clear hk)
 (try clear hi)
 refine hK.out _ _ ⟨(blk_cell BK134.out 0).trans rfl,(blk_cell BK134.out 1).trans rfl,(blk_cell BK134.out 2).trans rfl,(blk_cell BK142.out 0).trans rfl,(blk_cell BK142.out 1).trans rfl,(blk_cell BK142.out 2).trans rfl,(blk_cell BK150.out 0).trans rfl,(blk_cell BK150.out 1).trans rfl,(blk_cell BK150.out 2).trans rfl,(blk_cell BK158.out 0).trans rfl,(blk_cell BK158.out 1).trans rfl,(blk_cell BK158.out 2).trans rfl⟩ (fun hHeld => ?_)
 clear hK K
 refine norm_ (a' := ?_) ?_ ?_
 rotate_left
 ·show Act.put _ (some 116) _ = _
  simp only [Act.put,List.setIfInBounds_toArray,List.set_cons_zero,List.set_cons_succ,i64_w,i32_w]
  rfl
 refine pure_ (i := 19) (N := some 117) (v := ?_) (a' := ?_) #[true,true,true,true,true,true,true,true,true,true,true,true,true,true,true,true,true,true,true,true,false,false,false,false,false,false,false,false,false,false,false,false,false,false] rfl rfl (any_of HT_.out (by kernel_rfl)) (fun _ _ _ h => h) (Or.inl ⟨by rfl,?_⟩) ?_ ?_
 rotate_left
 ·intro w'
  go_simp
  with_reducible rfl
 rotate_left
 ·simp only [Act.put,List.setIfInBounds_toArray,List.set_cons_zero,List.set_cons_succ,i64_w,i32_w]
  rfl
 refine pure_ (i := 20) (N := some 118) (v := ?_) (a' := ?_) #[true,true,true,true,true,true,true,true,true,true,true,true,true,true,true,true,true,true,true,true,true,false,false,false,false,false,false,false,false,false,false,false,false,false] rfl rfl (any_of HT_.out (by kernel_rfl)) (fun _ _ _ h => h) (Or.inl ⟨by rfl,?_⟩) ?_ ?_
 rotate_left
 ·intro w'
  go_simp
  with_reducible rfl
 rotate_left
 ·simp only [Act.put,List.setIfInBounds_toArray,List.set_cons_zero,List.set_cons_succ,i64_w,i32_w]
  rfl
 refine pure_ (i := 21) (N := some 119) (v := ?_) (a' := ?_) #[true,true,true,true,true,true,true,true,true,true,true,true,true,true,true,true,true,true,true,true,true,true,false,false,false,false,false,false,false,false,false,false,false,false] rfl rfl (any_of HT_.out (by kernel_rfl)) (fun _ _ _ h => h) (Or.inl ⟨by rfl,?_⟩) ?_ ?_
 rotate_left
 ·intro w'
  go_simp
  with_reducible rfl
 rotate_left
 ·simp only [Act.put,List.setIfInBounds_toArray,List.set_cons_zero,List.set_cons_succ,i64_w,i32_w]
  rfl
 refine pure_ (i := 22) (N := some 120) (v := ?_) (a' := ?_) #[true,true,true,true,true,true,true,true,true,true,true,true,true,true,true,true,true,true,true,true,true,true,true,false,false,false,false,false,false,false,false,false,false,false] rfl rfl (any_of HT_.out (by kernel_rfl)) (fun _ _ _ h => h) (Or.inl ⟨by rfl,?_⟩) ?_ ?_
 rotate_left
 ·intro w'
  go_simp
  with_reducible rfl
 rotate_left
 ·simp only [Act.put,List.setIfInBounds_toArray,List.set_cons_zero,List.set_cons_succ,i64_w,i32_w]
  rfl
 refine pure_ (i := 23) (N := some 121) (v := ?_) (a' := ?_) #[true,true,true,true,true,true,true,true,true,true,true,true,true,true,true,true,true,true,true,true,true,true,true,true,false,false,false,false,false,false,false,false,false,false] rfl rfl (any_of HT_.out (by kernel_rfl)) (fun _ _ _ h => h) (Or.inl ⟨by rfl,?_⟩) ?_ ?_
 rotate_left
 ·intro w'
  go_simp
  with_reducible rfl
 rotate_left
 ·simp only [Act.put,List.setIfInBounds_toArray,List.set_cons_zero,List.set_cons_succ,i64_w,i32_w]
  rfl
 refine pure_ (i := 24) (N := some 122) (v := ?_) (a' := ?_) #[true,true,true,true,true,true,true,true,true,true,true,true,true,true,true,true,true,true,true,true,true,true,true,true,true,false,false,false,false,false,false,false,false,false] rfl rfl (any_of HT_.out (by kernel_rfl)) (fun _ _ _ h => h) (Or.inl ⟨by rfl,?_⟩) ?_ ?_
 rotate_left
 ·intro w'
  go_simp
  with_reducible rfl
 rotate_left
 ·simp only [Act.put,List.setIfInBounds_toArray,List.set_cons_zero,List.set_cons_succ,i64_w,i32_w]
  rfl
 refine pure_ (i := 25) (N := some 123) (v := ?_) (a' := ?_) #[true,true,true,true,true,true,true,true,true,true,true,true,true,true,true,true,true,true,true,true,true,true,true,true,true,true,false,false,false,false,false,false,false,false] rfl rfl (any_of HT_.out (by kernel_rfl)) (fun _ _ _ h => h) (Or.inl ⟨by rfl,?_⟩) ?_ ?_
 rotate_left
 ·intro w'
  go_simp
  with_reducible rfl
 rotate_left
 ·simp only [Act.put,List.setIfInBounds_toArray,List.set_cons_zero,List.set_cons_succ,i64_w,i32_w]
  rfl
 refine take_ (i := 26) (N := some 124) (v := ?_) (a' := ?_) #[true,true,true,true,true,true,true,true,true,true,true,true,true,true,true,true,true,true,true,true,true,true,true,true,true,true,true,false,false,false,false,false,false,false] rfl rfl (take_ofW HT_.out HW_.out (by kernel_rfl)) (fun _ _ _ h => h) (Or.inl ⟨by rfl,?_⟩) hHeld ?_ ?_
 rotate_left
 ·rintro w' ⟨s0,s1,s2,s3,s4,s5,s6,s7,s8,s9,s10,s11⟩
  go_simp
  with_reducible rfl
 rotate_left
 ·simp only [Act.put,List.setIfInBounds_toArray,List.set_cons_zero,List.set_cons_succ,i64_w,i32_w]
  rfl
 refine one_ (i := 27) (N := some 125) #[true,true,true,true,true,true,true,true,true,true,true,true,true,true,true,true,true,true,true,true,true,true,true,true,true,true,true,true,false,false,false,false,false,false] rfl rfl (one_of HT_.out (by kernel_rfl)) (by decide) (fun K hK => ?_)
 refine goes_ Tryz.func13 (by kernel_rfl) rfl #[.bool false,.string (⟨#[49]⟩ : ByteArray),.int .i64 1] (by rfl) rfl rfl (by (try simp only [List.map_toArray,List.map_cons,List.map_nil]);first | done | rfl | (simp only [List.length_drop,List.length_take];rfl)) ?_
 with_reducible refine (tabardlaw7_dec.calls false (⟨#[49]⟩ : ByteArray) 1 false (⟨#[49]⟩ : ByteArray) 1 _ A18.out).mono ?_
 rintro e w103 ⟨rfl,hb⟩
 refine ⟨_,rfl,?_⟩
 have n0_ := Aside0.mk (blk_below (g := gb134) (o := .cells #[.bool false,.string (⟨#[49,50,51]⟩ : ByteArray),.int .i64 2] 23 (0,0)) (by (with_reducible repeat (first | refine blk_drewN ?_ _ | refine blk_drew ?_ | refine blk_alloc ?_ _));exact BK134.out) hb)
 have n1_ := Aside0.mk (blk_below (g := gb142) (o := .cells #[.bool false,.string (⟨#[49,50,52]⟩ : ByteArray),.int .i64 2] 23 (0,0)) (by (with_reducible repeat (first | refine blk_drewN ?_ _ | refine blk_drew ?_ | refine blk_alloc ?_ _));exact BK142.out) hb)
 have n2_ := Aside0.mk (blk_below (g := gb150) (o := .cells #[.bool true,.string (⟨#[49,50,52]⟩ : ByteArray),.int .i64 2] 23 (0,0)) (by (with_reducible repeat (first | refine blk_drewN ?_ _ | refine blk_drew ?_ | refine blk_alloc ?_ _));exact BK150.out) hb)
 have n3_ := Aside0.mk (blk_below (g := gb158) (o := .cells #[.bool false,.string (⟨#[49]⟩ : ByteArray),.int .i64 1] 23 (0,0)) (by (with_reducible repeat (first | refine blk_drewN ?_ _ | refine blk_drew ?_ | refine blk_alloc ?_ _));exact BK158.out) hb)
 have n4_ := Aside0.mk (below_step (by repeat (first | (with_reducible first | exact HB.out | apply below_alloc | apply pw_below_drewN | apply below_drew1 | refine below_set ?_ GE134.out | refine below_set ?_ GE142.out | refine below_set ?_ GE150.out | refine below_set ?_ GE158.out) | exact HB.out)) hb)
 clear BK134
 clear BK142
 clear BK150
 clear BK158
 clear HB
 have BK134 := n0_
 have BK142 := n1_
 have BK150 := n2_
 have BK158 := n3_
 have HB := n4_
 clear n0_ n1_ n2_ n3_ n4_
 (try clear hb)
 (try clear hb2)
 (try clear hk)
 (try clear hi)
 refine hK.out _ _ ⟨(blk_cell BK134.out 0).trans rfl,(blk_cell BK134.out 1).trans rfl,(blk_cell BK134.out 2).trans rfl,(blk_cell BK142.out 0).trans rfl,(blk_cell BK142.out 1).trans rfl,(blk_cell BK142.out 2).trans rfl,(blk_cell BK150.out 0).trans rfl,(blk_cell BK150.out 1).trans rfl,(blk_cell BK150.out 2).trans rfl,(blk_cell BK158.out 0).trans rfl,(blk_cell BK158.out 1).trans rfl,(blk_cell BK158.out 2).trans rfl⟩ (fun hHeld => ?_)
 clear hK K
 refine norm_ (a' := ?_) ?_ ?_
 rotate_left
 ·show Act.put _ (some 125) _ = _
  simp only [Act.put,List.setIfInBounds_toArray,List.set_cons_zero,List.set_cons_succ,i64_w,i32_w]
  rfl
 refine pure_ (i := 28) (N := some 126) (v := ?_) (a' := ?_) #[true,true,true,true,true,true,true,true,true,true,true,true,true,true,true,true,true,true,true,true,true,true,true,true,true,true,true,true,true,false,false,false,false,false] rfl rfl (any_of HT_.out (by kernel_rfl)) (fun _ _ _ h => h) (Or.inl ⟨by rfl,?_⟩) ?_ ?_
 rotate_left
 ·intro w'
  go_simp
  with_reducible rfl
 rotate_left
 ·simp only [Act.put,List.setIfInBounds_toArray,List.set_cons_zero,List.set_cons_succ,i64_w,i32_w]
  rfl
 refine pure_ (i := 29) (N := some 127) (v := ?_) (a' := ?_) #[true,true,true,true,true,true,true,true,true,true,true,true,true,true,true,true,true,true,true,true,true,true,true,true,true,true,true,true,true,true,false,false,false,false] rfl rfl (any_of HT_.out (by kernel_rfl)) (fun _ _ _ h => h) (Or.inl ⟨by rfl,?_⟩) ?_ ?_
 rotate_left
 ·intro w'
  go_simp
  with_reducible rfl
 rotate_left
 ·simp only [Act.put,List.setIfInBounds_toArray,List.set_cons_zero,List.set_cons_succ,i64_w,i32_w]
  rfl
 refine pure_ (i := 30) (N := some 128) (v := ?_) (a' := ?_) #[true,true,true,true,true,true,true,true,true,true,true,true,true,true,true,true,true,true,true,true,true,true,true,true,true,true,true,true,true,true,true,false,false,false] rfl rfl (any_of HT_.out (by kernel_rfl)) (fun _ _ _ h => h) (Or.inl ⟨by rfl,?_⟩) ?_ ?_
 rotate_left
 ·intro w'
  go_simp
  with_reducible rfl
 rotate_left
 ·simp only [Act.put,List.setIfInBounds_toArray,List.set_cons_zero,List.set_cons_succ,i64_w,i32_w]
  rfl
 refine pure_ (i := 31) (N := some 129) (v := ?_) (a' := ?_) #[true,true,true,true,true,true,true,true,true,true,true,true,true,true,true,true,true,true,true,true,true,true,true,true,true,true,true,true,true,true,true,true,false,false] rfl rfl (any_of HT_.out (by kernel_rfl)) (fun _ _ _ h => h) (Or.inl ⟨by rfl,?_⟩) ?_ ?_
 rotate_left
 ·intro w'
  go_simp
  with_reducible rfl
 rotate_left
 ·simp only [Act.put,List.setIfInBounds_toArray,List.set_cons_zero,List.set_cons_succ,i64_w,i32_w]
  rfl
 refine pure_ (i := 32) (N := some 130) (v := ?_) (a' := ?_) #[true,true,true,true,true,true,true,true,true,true,true,true,true,true,true,true,true,true,true,true,true,true,true,true,true,true,true,true,true,true,true,true,true,false] rfl rfl (any_of HT_.out (by kernel_rfl)) (fun _ _ _ h => h) (Or.inl ⟨by rfl,?_⟩) ?_ ?_
 rotate_left
 ·intro w'
  go_simp
  with_reducible rfl
 rotate_left
 ·simp only [Act.put,List.setIfInBounds_toArray,List.set_cons_zero,List.set_cons_succ,i64_w,i32_w]
  rfl
 refine pure_ (i := 33) (N := some 131) (v := ?_) (a' := ?_) #[true,true,true,true,true,true,true,true,true,true,true,true,true,true,true,true,true,true,true,true,true,true,true,true,true,true,true,true,true,true,true,true,true,true] rfl rfl (any_of HT_.out (by kernel_rfl)) (fun _ _ _ h => h) (Or.inl ⟨by rfl,?_⟩) ?_ ?_
 rotate_left
 ·intro w'
  go_simp
  with_reducible rfl
 rotate_left
 ·simp only [Act.put,List.setIfInBounds_toArray,List.set_cons_zero,List.set_cons_succ,i64_w,i32_w]
  rfl
 refine done_ (done_of HT_.out (by kernel_rfl)) ?_
 try go_wp2_with (first | ((with_reducible refine gate_callee (f := 13) rfl ?_);refine goesL_ (some 133) rfl rfl Tryz.func13 (by kernel_rfl) rfl #[.bool false,.string (⟨#[50,53]⟩ : ByteArray),.int .i64 (-1)] rfl (by (try simp only [List.map_toArray,List.map_cons,List.map_nil]);first | done | rfl | (simp only [List.length_drop,List.length_take];rfl)) ?_;(with_reducible refine (tabardlaw7_dec.calls false (⟨#[50,53]⟩ : ByteArray) (-1) false (⟨#[50,53]⟩ : ByteArray) (-1) _ A19.out).mono ?_);rintro e w104 ⟨rfl,hb⟩;refine ⟨_,rfl,?_⟩;have n0_ := Aside0.mk (below_step (by repeat (first | (with_reducible first | exact HB.out | apply below_alloc | apply pw_below_drewN | apply below_drew1) | exact HB.out)) hb);clear HB;have HB := n0_;clear n0_;(try clear hb);(try clear hb2);(try clear hk);(try clear hi)) | ((with_reducible refine gate_callee (f := 15) rfl ?_);refine goesL_ (some 134) rfl rfl Tryz.func15 (by kernel_rfl) rfl #[.agg #[.bool false,.string (⟨#[50,53]⟩ : ByteArray),.int .i64 (-1)],.int .i64 0,.int .i64 0] rfl (by (try simp only [List.map_toArray,List.map_cons,List.map_nil]);first | done | rfl | (simp only [List.length_drop,List.length_take];rfl)) ?_;(with_reducible refine (decimal_Place.calls k false (⟨#[50,53]⟩ : ByteArray) (-1) 0 0 false (⟨#[50]⟩ : ByteArray) 0 0 _ A20.out).mono ?_);rintro e w105 ⟨rfl,hb⟩;refine ⟨_,rfl,?_⟩;have n0_ := Aside0.mk (below_step (by repeat (first | (with_reducible first | exact HB.out | apply below_alloc | apply pw_below_drewN | apply below_drew1) | exact HB.out)) hb);clear HB;have HB := n0_;clear n0_;(try clear hb);(try clear hb2);(try clear hk);(try clear hi)) | ((with_reducible refine gate_dst (N := 17) rfl ?_);refine box_event ?hg (N := 17) ?hd (cs := #[.bool false,.string (⟨#[]⟩ : ByteArray),.int .i64 0]) (t := 23) ?hr ?_;(case hd => rfl);(case hg => rfl);(case hr => first | (go_simp;done) | (go_simp;rfl));intro gb178 hg w106 hbox hb;have n0_ := Aside0.mk (below_step (by repeat (first | (with_reducible first | exact HB.out | apply below_alloc | apply pw_below_drewN | apply below_drew1) | exact HB.out)) hb);have n1_ := Aside0.mk (hbox);have n2_ := Aside0.mk ((by rw [hg];exact (below_size (by repeat (first | (with_reducible first | exact HB.out | apply below_alloc | apply pw_below_drewN | apply below_drew1) | exact HB.out))) : w.heap.size ≤ gb178));have n3_ := Aside0.mk ((by rw [hg];exact (below_size (by repeat (first | (with_reducible first | exact HB.out | apply below_alloc | apply pw_below_drewN | apply below_drew1) | exact HB.out))) : w.heap.size ≤ gb178));clear HB;have HB := n0_;have BK178 := n1_;have GW178 := n2_;have GE178 := n3_;clear n0_ n1_ n2_ n3_;clear hb hbox hg;have hcz107_0 : w106.cell? ⟨gb178,0,none⟩ = some (.bool false) := (blk_cell BK178.out 0).trans rfl;have hcz107_1 : w106.cell? ⟨gb178,1,none⟩ = some (.string (⟨#[]⟩ : ByteArray)) := (blk_cell BK178.out 1).trans rfl;have hcz107_2 : w106.cell? ⟨gb178,2,none⟩ = some (.int .i64 0) := (blk_cell BK178.out 2).trans rfl;have hfz107_0 := blk_frozen BK178.out 0;have hfz107_1 := blk_frozen BK178.out 1;have hfz107_2 := blk_frozen BK178.out 2) | ((with_reducible refine gate_callee (f := 13) rfl ?_);refine goesL_ (some 138) rfl rfl Tryz.func13 (by kernel_rfl) rfl #[.bool true,.string (⟨#[52]⟩ : ByteArray),.int .i64 (-1)] rfl (by (try simp only [List.map_toArray,List.map_cons,List.map_nil]);first | done | rfl | (simp only [List.length_drop,List.length_take];rfl)) ?_;(with_reducible refine (tabardlaw7_dec.calls true (⟨#[52]⟩ : ByteArray) (-1) true (⟨#[52]⟩ : ByteArray) (-1) _ A21.out).mono ?_);rintro e w108 ⟨rfl,hb⟩;refine ⟨_,rfl,?_⟩;have n0_ := Aside0.mk (blk_below (g := gb178) (o := .cells #[.bool false,.string (⟨#[50]⟩ : ByteArray),.int .i64 0] 23 (0,0)) (by (with_reducible repeat (first | refine blk_drewN ?_ _ | refine blk_drew ?_ | refine blk_alloc ?_ _));refine blk_put (cs := #[.bool false,.string (⟨#[50]⟩ : ByteArray),.int .i64 0]) ?_ 2 _ rfl;(with_reducible repeat (first | refine blk_drewN ?_ _ | refine blk_drew ?_ | refine blk_alloc ?_ _));refine blk_put (cs := #[.bool false,.string (⟨#[]⟩ : ByteArray),.int .i64 0]) ?_ 1 _ rfl;(with_reducible repeat (first | refine blk_drewN ?_ _ | refine blk_drew ?_ | refine blk_alloc ?_ _));refine blk_put (cs := #[.bool false,.string (⟨#[]⟩ : ByteArray),.int .i64 0]) ?_ 0 _ rfl;(with_reducible repeat (first | refine blk_drewN ?_ _ | refine blk_drew ?_ | refine blk_alloc ?_ _));exact BK178.out) hb);have n1_ := Aside0.mk (below_step (by repeat (first | (with_reducible first | exact HB.out | apply below_alloc | apply pw_below_drewN | apply below_drew1 | refine below_set ?_ GE178.out) | exact HB.out)) hb);clear BK178;clear HB;have BK178 := n0_;have HB := n1_;clear n0_ n1_;(try clear hb);(try clear hb2);(try clear hk);(try clear hi)) | ((with_reducible refine gate_callee (f := 15) rfl ?_);refine goesL_ (some 139) rfl rfl Tryz.func15 (by kernel_rfl) rfl #[.agg #[.bool true,.string (⟨#[52]⟩ : ByteArray),.int .i64 (-1)],.int .i64 0,.int .i64 1] rfl (by (try simp only [List.map_toArray,List.map_cons,List.map_nil]);first | done | rfl | (simp only [List.length_drop,List.length_take];rfl)) ?_;(with_reducible refine (decimal_Place.calls k true (⟨#[52]⟩ : ByteArray) (-1) 0 1 true (⟨#[]⟩ : ByteArray) 0 0 _ A22.out).mono ?_);rintro e w109 ⟨rfl,hb⟩;refine ⟨_,rfl,?_⟩;have n0_ := Aside0.mk (blk_below (g := gb178) (o := .cells #[.bool false,.string (⟨#[50]⟩ : ByteArray),.int .i64 0] 23 (0,0)) (by (with_reducible repeat (first | refine blk_drewN ?_ _ | refine blk_drew ?_ | refine blk_alloc ?_ _));exact BK178.out) hb);have n1_ := Aside0.mk (below_step (by repeat (first | (with_reducible first | exact HB.out | apply below_alloc | apply pw_below_drewN | apply below_drew1 | refine below_set ?_ GE178.out) | exact HB.out)) hb);clear BK178;clear HB;have BK178 := n0_;have HB := n1_;clear n0_ n1_;(try clear hb);(try clear hb2);(try clear hk);(try clear hi)) | ((with_reducible refine gate_dst (N := 19) rfl ?_);refine box_event ?hg (N := 19) ?hd (cs := #[.bool false,.string (⟨#[]⟩ : ByteArray),.int .i64 0]) (t := 23) ?hr ?_;(case hd => rfl);(case hg => rfl);(case hr => first | (go_simp;done) | (go_simp;rfl));intro gb186 hg w110 hbox hb;have n0_ := Aside0.mk (blk_below (g := gb178) (o := .cells #[.bool false,.string (⟨#[50]⟩ : ByteArray),.int .i64 0] 23 (0,0)) (by (with_reducible repeat (first | refine blk_drewN ?_ _ | refine blk_drew ?_ | refine blk_alloc ?_ _));exact BK178.out) hb);have n1_ := Aside0.mk (below_step (by repeat (first | (with_reducible first | exact HB.out | apply below_alloc | apply pw_below_drewN | apply below_drew1 | refine below_set ?_ GE178.out) | exact HB.out)) hb);have n2_ := Aside0.mk (hbox);have n3_ := Aside0.mk ((by rw [hg];exact (below_size (by repeat (first | (with_reducible first | exact HB.out | apply below_alloc | apply pw_below_drewN | apply below_drew1 | refine below_set ?_ GE178.out) | exact HB.out))) : w.heap.size ≤ gb186));have n4_ := Aside0.mk ((by rw [hg];exact (below_size (by repeat (first | (with_reducible first | exact HB.out | apply below_alloc | apply pw_below_drewN | apply below_drew1 | refine below_set ?_ GE178.out) | exact HB.out))) : w.heap.size ≤ gb186));have n5_ := Aside0.mk ((by rw [hg];exact Nat.ne_of_lt (blk_lt (g := gb178) (o := .cells #[.bool false,.string (⟨#[50]⟩ : ByteArray),.int .i64 0] 23 (0,0)) (by (with_reducible repeat (first | refine blk_drewN ?_ _ | refine blk_drew ?_ | refine blk_alloc ?_ _));exact BK178.out)) : gb178 ≠ gb186));have n6_ := Aside0.mk ((by rw [hg];exact Nat.ne_of_gt (blk_lt (g := gb178) (o := .cells #[.bool false,.string (⟨#[50]⟩ : ByteArray),.int .i64 0] 23 (0,0)) (by (with_reducible repeat (first | refine blk_drewN ?_ _ | refine blk_drew ?_ | refine blk_alloc ?_ _));exact BK178.out)) : gb186 ≠ gb178));clear BK178;clear HB;have BK178 := n0_;have HB := n1_;have BK186 := n2_;have GW186 := n3_;have GE186 := n4_;have NB178_186 := n5_;have NB186_178 := n6_;clear n0_ n1_ n2_ n3_ n4_ n5_ n6_;clear hb hbox hg;have hnb111 := NB186_178.out;have hnc111 := NB178_186.out;have hcz112_0 : w110.cell? ⟨gb186,0,none⟩ = some (.bool false) := (blk_cell BK186.out 0).trans rfl;have hcz112_1 : w110.cell? ⟨gb186,1,none⟩ = some (.string (⟨#[]⟩ : ByteArray)) := (blk_cell BK186.out 1).trans rfl;have hcz112_2 : w110.cell? ⟨gb186,2,none⟩ = some (.int .i64 0) := (blk_cell BK186.out 2).trans rfl;have hfz112_0 := blk_frozen BK186.out 0;have hfz112_1 := blk_frozen BK186.out 1;have hfz112_2 := blk_frozen BK186.out 2) | ((with_reducible refine gate_callee (f := 13) rfl ?_);refine goesL_ (some 143) rfl rfl Tryz.func13 (by kernel_rfl) rfl #[.bool false,.string (⟨#[49,50,53]⟩ : ByteArray),.int .i64 1] rfl (by (try simp only [List.map_toArray,List.map_cons,List.map_nil]);first | done | rfl | (simp only [List.length_drop,List.length_take];rfl)) ?_;(with_reducible refine (tabardlaw7_dec.calls false (⟨#[49,50,53]⟩ : ByteArray) 1 false (⟨#[49,50,53]⟩ : ByteArray) 1 _ A23.out).mono ?_);rintro e w113 ⟨rfl,hb⟩;refine ⟨_,rfl,?_⟩;have n0_ := Aside0.mk (blk_below (g := gb178) (o := .cells #[.bool false,.string (⟨#[50]⟩ : ByteArray),.int .i64 0] 23 (0,0)) (by (with_reducible repeat (first | refine blk_drewN ?_ _ | refine blk_drew ?_ | refine blk_alloc ?_ _));refine blk_far ?_ NB178_186.out _;(with_reducible repeat (first | refine blk_drewN ?_ _ | refine blk_drew ?_ | refine blk_alloc ?_ _));refine blk_far ?_ NB178_186.out _;(with_reducible repeat (first | refine blk_drewN ?_ _ | refine blk_drew ?_ | refine blk_alloc ?_ _));refine blk_far ?_ NB178_186.out _;(with_reducible repeat (first | refine blk_drewN ?_ _ | refine blk_drew ?_ | refine blk_alloc ?_ _));exact BK178.out) hb);have n1_ := Aside0.mk (blk_below (g := gb186) (o := .cells #[.bool true,.string (⟨#[]⟩ : ByteArray),.int .i64 0] 23 (0,0)) (by (with_reducible repeat (first | refine blk_drewN ?_ _ | refine blk_drew ?_ | refine blk_alloc ?_ _));refine blk_put (cs := #[.bool true,.string (⟨#[]⟩ : ByteArray),.int .i64 0]) ?_ 2 _ rfl;(with_reducible repeat (first | refine blk_drewN ?_ _ | refine blk_drew ?_ | refine blk_alloc ?_ _));refine blk_put (cs := #[.bool true,.string (⟨#[]⟩ : ByteArray),.int .i64 0]) ?_ 1 _ rfl;(with_reducible repeat (first | refine blk_drewN ?_ _ | refine blk_drew ?_ | refine blk_alloc ?_ _));refine blk_put (cs := #[.bool false,.string (⟨#[]⟩ : ByteArray),.int .i64 0]) ?_ 0 _ rfl;(with_reducible repeat (first | refine blk_drewN ?_ _ | refine blk_drew ?_ | refine blk_alloc ?_ _));exact BK186.out) hb);have n2_ := Aside0.mk (below_step (by repeat (first | (with_reducible first | exact HB.out | apply below_alloc | apply pw_below_drewN | apply below_drew1 | refine below_set ?_ GE178.out | refine below_set ?_ GE186.out) | exact HB.out)) hb);clear BK178;clear BK186;clear HB;have BK178 := n0_;have BK186 := n1_;have HB := n2_;clear n0_ n1_ n2_;(try clear hb);(try clear hb2);(try clear hk);(try clear hi)) | ((with_reducible refine gate_callee (f := 15) rfl ?_);refine goesL_ (some 144) rfl rfl Tryz.func15 (by kernel_rfl) rfl #[.agg #[.bool false,.string (⟨#[49,50,53]⟩ : ByteArray),.int .i64 1],.int .i64 (-2),.int .i64 0] rfl (by (try simp only [List.map_toArray,List.map_cons,List.map_nil]);first | done | rfl | (simp only [List.length_drop,List.length_take];rfl)) ?_;(with_reducible refine (decimal_Place.calls k false (⟨#[49,50,53]⟩ : ByteArray) 1 (-2) 0 false (⟨#[49,50]⟩ : ByteArray) 2 0 _ A24.out).mono ?_);rintro e w114 ⟨rfl,hb⟩;refine ⟨_,rfl,?_⟩;have n0_ := Aside0.mk (blk_below (g := gb178) (o := .cells #[.bool false,.string (⟨#[50]⟩ : ByteArray),.int .i64 0] 23 (0,0)) (by (with_reducible repeat (first | refine blk_drewN ?_ _ | refine blk_drew ?_ | refine blk_alloc ?_ _));exact BK178.out) hb);have n1_ := Aside0.mk (blk_below (g := gb186) (o := .cells #[.bool true,.string (⟨#[]⟩ : ByteArray),.int .i64 0] 23 (0,0)) (by (with_reducible repeat (first | refine blk_drewN ?_ _ | refine blk_drew ?_ | refine blk_alloc ?_ _));exact BK186.out) hb);have n2_ := Aside0.mk (below_step (by repeat (first | (with_reducible first | exact HB.out | apply below_alloc | apply pw_below_drewN | apply below_drew1 | refine below_set ?_ GE178.out | refine below_set ?_ GE186.out) | exact HB.out)) hb);clear BK178;clear BK186;clear HB;have BK178 := n0_;have BK186 := n1_;have HB := n2_;clear n0_ n1_ n2_;(try clear hb);(try clear hb2);(try clear hk);(try clear hi)) | ((with_reducible refine gate_dst (N := 21) rfl ?_);refine box_event ?hg (N := 21) ?hd (cs := #[.bool false,.string (⟨#[]⟩ : ByteArray),.int .i64 0]) (t := 23) ?hr ?_;(case hd => rfl);(case hg => rfl);(case hr => first | (go_simp;done) | (go_simp;rfl));intro gb194 hg w115 hbox hb;have n0_ := Aside0.mk (blk_below (g := gb178) (o := .cells #[.bool false,.string (⟨#[50]⟩ : ByteArray),.int .i64 0] 23 (0,0)) (by (with_reducible repeat (first | refine blk_drewN ?_ _ | refine blk_drew ?_ | refine blk_alloc ?_ _));exact BK178.out) hb);have n1_ := Aside0.mk (blk_below (g := gb186) (o := .cells #[.bool true,.string (⟨#[]⟩ : ByteArray),.int .i64 0] 23 (0,0)) (by (with_reducible repeat (first | refine blk_drewN ?_ _ | refine blk_drew ?_ | refine blk_alloc ?_ _));exact BK186.out) hb);have n2_ := Aside0.mk (below_step (by repeat (first | (with_reducible first | exact HB.out | apply below_alloc | apply pw_below_drewN | apply below_drew1 | refine below_set ?_ GE178.out | refine below_set ?_ GE186.out) | exact HB.out)) hb);have n3_ := Aside0.mk (hbox);have n4_ := Aside0.mk ((by rw [hg];exact (below_size (by repeat (first | (with_reducible first | exact HB.out | apply below_alloc | apply pw_below_drewN | apply below_drew1 | refine below_set ?_ GE178.out | refine below_set ?_ GE186.out) | exact HB.out))) : w.heap.size ≤ gb194));have n5_ := Aside0.mk ((by rw [hg];exact (below_size (by repeat (first | (with_reducible first | exact HB.out | apply below_alloc | apply pw_below_drewN | apply below_drew1 | refine below_set ?_ GE178.out | refine below_set ?_ GE186.out) | exact HB.out))) : w.heap.size ≤ gb194));have n6_ := Aside0.mk ((by rw [hg];exact Nat.ne_of_lt (blk_lt (g := gb178) (o := .cells #[.bool false,.string (⟨#[50]⟩ : ByteArray),.int .i64 0] 23 (0,0)) (by (with_reducible repeat (first | refine blk_drewN ?_ _ | refine blk_drew ?_ | refine blk_alloc ?_ _));exact BK178.out)) : gb178 ≠ gb194));have n7_ := Aside0.mk ((by rw [hg];exact Nat.ne_of_gt (blk_lt (g := gb178) (o := .cells #[.bool false,.string (⟨#[50]⟩ : ByteArray),.int .i64 0] 23 (0,0)) (by (with_reducible repeat (first | refine blk_drewN ?_ _ | refine blk_drew ?_ | refine blk_alloc ?_ _));exact BK178.out)) : gb194 ≠ gb178));have n8_ := Aside0.mk ((by rw [hg];exact Nat.ne_of_lt (blk_lt (g := gb186) (o := .cells #[.bool true,.string (⟨#[]⟩ : ByteArray),.int .i64 0] 23 (0,0)) (by (with_reducible repeat (first | refine blk_drewN ?_ _ | refine blk_drew ?_ | refine blk_alloc ?_ _));exact BK186.out)) : gb186 ≠ gb194));have n9_ := Aside0.mk ((by rw [hg];exact Nat.ne_of_gt (blk_lt (g := gb186) (o := .cells #[.bool true,.string (⟨#[]⟩ : ByteArray),.int .i64 0] 23 (0,0)) (by (with_reducible repeat (first | refine blk_drewN ?_ _ | refine blk_drew ?_ | refine blk_alloc ?_ _));exact BK186.out)) : gb194 ≠ gb186));clear BK178;clear BK186;clear HB;have BK178 := n0_;have BK186 := n1_;have HB := n2_;have BK194 := n3_;have GW194 := n4_;have GE194 := n5_;have NB178_194 := n6_;have NB194_178 := n7_;have NB186_194 := n8_;have NB194_186 := n9_;clear n0_ n1_ n2_ n3_ n4_ n5_ n6_ n7_ n8_ n9_;clear hb hbox hg;have hnb116 := NB194_178.out;have hnc116 := NB178_194.out;have hnb117 := NB194_186.out;have hnc117 := NB186_194.out;have hcz118_0 : w115.cell? ⟨gb194,0,none⟩ = some (.bool false) := (blk_cell BK194.out 0).trans rfl;have hcz118_1 : w115.cell? ⟨gb194,1,none⟩ = some (.string (⟨#[]⟩ : ByteArray)) := (blk_cell BK194.out 1).trans rfl;have hcz118_2 : w115.cell? ⟨gb194,2,none⟩ = some (.int .i64 0) := (blk_cell BK194.out 2).trans rfl;have hfz118_0 := blk_frozen BK194.out 0;have hfz118_1 := blk_frozen BK194.out 1;have hfz118_2 := blk_frozen BK194.out 2) | ((with_reducible refine gate_callee (f := 13) rfl ?_);refine goesL_ (some 148) rfl rfl Tryz.func13 (by kernel_rfl) rfl #[.bool false,.string (⟨#[49]⟩ : ByteArray),.int .i64 (-3)] rfl (by (try simp only [List.map_toArray,List.map_cons,List.map_nil]);first | done | rfl | (simp only [List.length_drop,List.length_take];rfl)) ?_;(with_reducible refine (tabardlaw7_dec.calls false (⟨#[49]⟩ : ByteArray) (-3) false (⟨#[49]⟩ : ByteArray) (-3) _ A25.out).mono ?_);rintro e w119 ⟨rfl,hb⟩;refine ⟨_,rfl,?_⟩;have n0_ := Aside0.mk (blk_below (g := gb178) (o := .cells #[.bool false,.string (⟨#[50]⟩ : ByteArray),.int .i64 0] 23 (0,0)) (by (with_reducible repeat (first | refine blk_drewN ?_ _ | refine blk_drew ?_ | refine blk_alloc ?_ _));refine blk_far ?_ NB178_194.out _;(with_reducible repeat (first | refine blk_drewN ?_ _ | refine blk_drew ?_ | refine blk_alloc ?_ _));refine blk_far ?_ NB178_194.out _;(with_reducible repeat (first | refine blk_drewN ?_ _ | refine blk_drew ?_ | refine blk_alloc ?_ _));refine blk_far ?_ NB178_194.out _;(with_reducible repeat (first | refine blk_drewN ?_ _ | refine blk_drew ?_ | refine blk_alloc ?_ _));exact BK178.out) hb);have n1_ := Aside0.mk (blk_below (g := gb186) (o := .cells #[.bool true,.string (⟨#[]⟩ : ByteArray),.int .i64 0] 23 (0,0)) (by (with_reducible repeat (first | refine blk_drewN ?_ _ | refine blk_drew ?_ | refine blk_alloc ?_ _));refine blk_far ?_ NB186_194.out _;(with_reducible repeat (first | refine blk_drewN ?_ _ | refine blk_drew ?_ | refine blk_alloc ?_ _));refine blk_far ?_ NB186_194.out _;(with_reducible repeat (first | refine blk_drewN ?_ _ | refine blk_drew ?_ | refine blk_alloc ?_ _));refine blk_far ?_ NB186_194.out _;(with_reducible repeat (first | refine blk_drewN ?_ _ | refine blk_drew ?_ | refine blk_alloc ?_ _));exact BK186.out) hb);have n2_ := Aside0.mk (blk_below (g := gb194) (o := .cells #[.bool false,.string (⟨#[49,50]⟩ : ByteArray),.int .i64 2] 23 (0,0)) (by (with_reducible repeat (first | refine blk_drewN ?_ _ | refine blk_drew ?_ | refine blk_alloc ?_ _));refine blk_put (cs := #[.bool false,.string (⟨#[49,50]⟩ : ByteArray),.int .i64 0]) ?_ 2 _ rfl;(with_reducible repeat (first | refine blk_drewN ?_ _ | refine blk_drew ?_ | refine blk_alloc ?_ _));refine blk_put (cs := #[.bool false,.string (⟨#[]⟩ : ByteArray),.int .i64 0]) ?_ 1 _ rfl;(with_reducible repeat (first | refine blk_drewN ?_ _ | refine blk_drew ?_ | refine blk_alloc ?_ _));refine blk_put (cs := #[.bool false,.string (⟨#[]⟩ : ByteArray),.int .i64 0]) ?_ 0 _ rfl;(with_reducible repeat (first | refine blk_drewN ?_ _ | refine blk_drew ?_ | refine blk_alloc ?_ _));exact BK194.out) hb);have n3_ := Aside0.mk (below_step (by repeat (first | (with_reducible first | exact HB.out | apply below_alloc | apply pw_below_drewN | apply below_drew1 | refine below_set ?_ GE178.out | refine below_set ?_ GE186.out | refine below_set ?_ GE194.out) | exact HB.out)) hb);clear BK178;clear BK186;clear BK194;clear HB;have BK178 := n0_;have BK186 := n1_;have BK194 := n2_;have HB := n3_;clear n0_ n1_ n2_ n3_;(try clear hb);(try clear hb2);(try clear hk);(try clear hi)) | ((with_reducible refine gate_callee (f := 15) rfl ?_);refine goesL_ (some 149) rfl rfl Tryz.func15 (by kernel_rfl) rfl #[.agg #[.bool false,.string (⟨#[49]⟩ : ByteArray),.int .i64 (-3)],.int .i64 2,.int .i64 5] rfl (by (try simp only [List.map_toArray,List.map_cons,List.map_nil]);first | done | rfl | (simp only [List.length_drop,List.length_take];rfl)) ?_;(with_reducible refine (decimal_Place.calls k false (⟨#[49]⟩ : ByteArray) (-3) 2 5 false (⟨#[49]⟩ : ByteArray) (-2) 0 _ A26.out).mono ?_);rintro e w120 ⟨rfl,hb⟩;refine ⟨_,rfl,?_⟩;have n0_ := Aside0.mk (blk_below (g := gb178) (o := .cells #[.bool false,.string (⟨#[50]⟩ : ByteArray),.int .i64 0] 23 (0,0)) (by (with_reducible repeat (first | refine blk_drewN ?_ _ | refine blk_drew ?_ | refine blk_alloc ?_ _));exact BK178.out) hb);have n1_ := Aside0.mk (blk_below (g := gb186) (o := .cells #[.bool true,.string (⟨#[]⟩ : ByteArray),.int .i64 0] 23 (0,0)) (by (with_reducible repeat (first | refine blk_drewN ?_ _ | refine blk_drew ?_ | refine blk_alloc ?_ _));exact BK186.out) hb);have n2_ := Aside0.mk (blk_below (g := gb194) (o := .cells #[.bool false,.string (⟨#[49,50]⟩ : ByteArray),.int .i64 2] 23 (0,0)) (by (with_reducible repeat (first | refine blk_drewN ?_ _ | refine blk_drew ?_ | refine blk_alloc ?_ _));exact BK194.out) hb);have n3_ := Aside0.mk (below_step (by repeat (first | (with_reducible first | exact HB.out | apply below_alloc | apply pw_below_drewN | apply below_drew1 | refine below_set ?_ GE178.out | refine below_set ?_ GE186.out | refine below_set ?_ GE194.out) | exact HB.out)) hb);clear BK178;clear BK186;clear BK194;clear HB;have BK178 := n0_;have BK186 := n1_;have BK194 := n2_;have HB := n3_;clear n0_ n1_ n2_ n3_;(try clear hb);(try clear hb2);(try clear hk);(try clear hi)) | ((with_reducible refine gate_dst (N := 23) rfl ?_);refine box_event ?hg (N := 23) ?hd (cs := #[.bool false,.string (⟨#[]⟩ : ByteArray),.int .i64 0]) (t := 23) ?hr ?_;(case hd => rfl);(case hg => rfl);(case hr => first | (go_simp;done) | (go_simp;rfl));intro gb202 hg w121 hbox hb;have n0_ := Aside0.mk (blk_below (g := gb178) (o := .cells #[.bool false,.string (⟨#[50]⟩ : ByteArray),.int .i64 0] 23 (0,0)) (by (with_reducible repeat (first | refine blk_drewN ?_ _ | refine blk_drew ?_ | refine blk_alloc ?_ _));exact BK178.out) hb);have n1_ := Aside0.mk (blk_below (g := gb186) (o := .cells #[.bool true,.string (⟨#[]⟩ : ByteArray),.int .i64 0] 23 (0,0)) (by (with_reducible repeat (first | refine blk_drewN ?_ _ | refine blk_drew ?_ | refine blk_alloc ?_ _));exact BK186.out) hb);have n2_ := Aside0.mk (blk_below (g := gb194) (o := .cells #[.bool false,.string (⟨#[49,50]⟩ : ByteArray),.int .i64 2] 23 (0,0)) (by (with_reducible repeat (first | refine blk_drewN ?_ _ | refine blk_drew ?_ | refine blk_alloc ?_ _));exact BK194.out) hb);have n3_ := Aside0.mk (below_step (by repeat (first | (with_reducible first | exact HB.out | apply below_alloc | apply pw_below_drewN | apply below_drew1 | refine below_set ?_ GE178.out | refine below_set ?_ GE186.out | refine below_set ?_ GE194.out) | exact HB.out)) hb);have n4_ := Aside0.mk (hbox);have n5_ := Aside0.mk ((by rw [hg];exact (below_size (by repeat (first | (with_reducible first | exact HB.out | apply below_alloc | apply pw_below_drewN | apply below_drew1 | refine below_set ?_ GE178.out | refine below_set ?_ GE186.out | refine below_set ?_ GE194.out) | exact HB.out))) : w.heap.size ≤ gb202));have n6_ := Aside0.mk ((by rw [hg];exact (below_size (by repeat (first | (with_reducible first | exact HB.out | apply below_alloc | apply pw_below_drewN | apply below_drew1 | refine below_set ?_ GE178.out | refine below_set ?_ GE186.out | refine below_set ?_ GE194.out) | exact HB.out))) : w.heap.size ≤ gb202));have n7_ := Aside0.mk ((by rw [hg];exact Nat.ne_of_lt (blk_lt (g := gb178) (o := .cells #[.bool false,.string (⟨#[50]⟩ : ByteArray),.int .i64 0] 23 (0,0)) (by (with_reducible repeat (first | refine blk_drewN ?_ _ | refine blk_drew ?_ | refine blk_alloc ?_ _));exact BK178.out)) : gb178 ≠ gb202));have n8_ := Aside0.mk ((by rw [hg];exact Nat.ne_of_gt (blk_lt (g := gb178) (o := .cells #[.bool false,.string (⟨#[50]⟩ : ByteArray),.int .i64 0] 23 (0,0)) (by (with_reducible repeat (first | refine blk_drewN ?_ _ | refine blk_drew ?_ | refine blk_alloc ?_ _));exact BK178.out)) : gb202 ≠ gb178));have n9_ := Aside0.mk ((by rw [hg];exact Nat.ne_of_lt (blk_lt (g := gb186) (o := .cells #[.bool true,.string (⟨#[]⟩ : ByteArray),.int .i64 0] 23 (0,0)) (by (with_reducible repeat (first | refine blk_drewN ?_ _ | refine blk_drew ?_ | refine blk_alloc ?_ _));exact BK186.out)) : gb186 ≠ gb202));have n10_ := Aside0.mk ((by rw [hg];exact Nat.ne_of_gt (blk_lt (g := gb186) (o := .cells #[.bool true,.string (⟨#[]⟩ : ByteArray),.int .i64 0] 23 (0,0)) (by (with_reducible repeat (first | refine blk_drewN ?_ _ | refine blk_drew ?_ | refine blk_alloc ?_ _));exact BK186.out)) : gb202 ≠ gb186));have n11_ := Aside0.mk ((by rw [hg];exact Nat.ne_of_lt (blk_lt (g := gb194) (o := .cells #[.bool false,.string (⟨#[49,50]⟩ : ByteArray),.int .i64 2] 23 (0,0)) (by (with_reducible repeat (first | refine blk_drewN ?_ _ | refine blk_drew ?_ | refine blk_alloc ?_ _));exact BK194.out)) : gb194 ≠ gb202));have n12_ := Aside0.mk ((by rw [hg];exact Nat.ne_of_gt (blk_lt (g := gb194) (o := .cells #[.bool false,.string (⟨#[49,50]⟩ : ByteArray),.int .i64 2] 23 (0,0)) (by (with_reducible repeat (first | refine blk_drewN ?_ _ | refine blk_drew ?_ | refine blk_alloc ?_ _));exact BK194.out)) : gb202 ≠ gb194));clear BK178;clear BK186;clear BK194;clear HB;have BK178 := n0_;have BK186 := n1_;have BK194 := n2_;have HB := n3_;have BK202 := n4_;have GW202 := n5_;have GE202 := n6_;have NB178_202 := n7_;have NB202_178 := n8_;have NB186_202 := n9_;have NB202_186 := n10_;have NB194_202 := n11_;have NB202_194 := n12_;clear n0_ n1_ n2_ n3_ n4_ n5_ n6_ n7_ n8_ n9_ n10_ n11_ n12_;clear hb hbox hg;have hnb122 := NB202_178.out;have hnc122 := NB178_202.out;have hnb123 := NB202_186.out;have hnc123 := NB186_202.out;have hnb124 := NB202_194.out;have hnc124 := NB194_202.out;have hcz125_0 : w121.cell? ⟨gb202,0,none⟩ = some (.bool false) := (blk_cell BK202.out 0).trans rfl;have hcz125_1 : w121.cell? ⟨gb202,1,none⟩ = some (.string (⟨#[]⟩ : ByteArray)) := (blk_cell BK202.out 1).trans rfl;have hcz125_2 : w121.cell? ⟨gb202,2,none⟩ = some (.int .i64 0) := (blk_cell BK202.out 2).trans rfl;have hfz125_0 := blk_frozen BK202.out 0;have hfz125_1 := blk_frozen BK202.out 1;have hfz125_2 := blk_frozen BK202.out 2))
 have n0_ : Aside0 ((((w121.setCell ⟨gb202,0,none⟩ (.bool false)).setCell ⟨gb202,1,none⟩ (.string (⟨#[49]⟩ : ByteArray))).setCell ⟨gb202,2,none⟩ (.int .i64 (-2))).heap[gb178]? = some (.cells #[.bool false,.string (⟨#[50]⟩ : ByteArray),.int .i64 0] 23 (0,0))) := ⟨by (with_reducible repeat (first | refine blk_drewN ?_ _ | refine blk_drew ?_ | refine blk_alloc ?_ _));refine blk_far ?_ NB178_202.out _;(with_reducible repeat (first | refine blk_drewN ?_ _ | refine blk_drew ?_ | refine blk_alloc ?_ _));refine blk_far ?_ NB178_202.out _;(with_reducible repeat (first | refine blk_drewN ?_ _ | refine blk_drew ?_ | refine blk_alloc ?_ _));refine blk_far ?_ NB178_202.out _;(with_reducible repeat (first | refine blk_drewN ?_ _ | refine blk_drew ?_ | refine blk_alloc ?_ _));exact BK178.out⟩
 have n1_ : Aside0 ((((w121.setCell ⟨gb202,0,none⟩ (.bool false)).setCell ⟨gb202,1,none⟩ (.string (⟨#[49]⟩ : ByteArray))).setCell ⟨gb202,2,none⟩ (.int .i64 (-2))).heap[gb186]? = some (.cells #[.bool true,.string (⟨#[]⟩ : ByteArray),.int .i64 0] 23 (0,0))) := ⟨by (with_reducible repeat (first | refine blk_drewN ?_ _ | refine blk_drew ?_ | refine blk_alloc ?_ _));refine blk_far ?_ NB186_202.out _;(with_reducible repeat (first | refine blk_drewN ?_ _ | refine blk_drew ?_ | refine blk_alloc ?_ _));refine blk_far ?_ NB186_202.out _;(with_reducible repeat (first | refine blk_drewN ?_ _ | refine blk_drew ?_ | refine blk_alloc ?_ _));refine blk_far ?_ NB186_202.out _;(with_reducible repeat (first | refine blk_drewN ?_ _ | refine blk_drew ?_ | refine blk_alloc ?_ _));exact BK186.out⟩
 have n2_ : Aside0 ((((w121.setCell ⟨gb202,0,none⟩ (.bool false)).setCell ⟨gb202,1,none⟩ (.string (⟨#[49]⟩ : ByteArray))).setCell ⟨gb202,2,none⟩ (.int .i64 (-2))).heap[gb194]? = some (.cells #[.bool false,.string (⟨#[49,50]⟩ : ByteArray),.int .i64 2] 23 (0,0))) := ⟨by (with_reducible repeat (first | refine blk_drewN ?_ _ | refine blk_drew ?_ | refine blk_alloc ?_ _));refine blk_far ?_ NB194_202.out _;(with_reducible repeat (first | refine blk_drewN ?_ _ | refine blk_drew ?_ | refine blk_alloc ?_ _));refine blk_far ?_ NB194_202.out _;(with_reducible repeat (first | refine blk_drewN ?_ _ | refine blk_drew ?_ | refine blk_alloc ?_ _));refine blk_far ?_ NB194_202.out _;(with_reducible repeat (first | refine blk_drewN ?_ _ | refine blk_drew ?_ | refine blk_alloc ?_ _));exact BK194.out⟩
 have n3_ : Aside0 ((((w121.setCell ⟨gb202,0,none⟩ (.bool false)).setCell ⟨gb202,1,none⟩ (.string (⟨#[49]⟩ : ByteArray))).setCell ⟨gb202,2,none⟩ (.int .i64 (-2))).heap[gb202]? = some (.cells #[.bool false,.string (⟨#[49]⟩ : ByteArray),.int .i64 (-2)] 23 (0,0))) := ⟨by (with_reducible repeat (first | refine blk_drewN ?_ _ | refine blk_drew ?_ | refine blk_alloc ?_ _));refine blk_put (cs := #[.bool false,.string (⟨#[49]⟩ : ByteArray),.int .i64 0]) ?_ 2 _ rfl;(with_reducible repeat (first | refine blk_drewN ?_ _ | refine blk_drew ?_ | refine blk_alloc ?_ _));refine blk_put (cs := #[.bool false,.string (⟨#[]⟩ : ByteArray),.int .i64 0]) ?_ 1 _ rfl;(with_reducible repeat (first | refine blk_drewN ?_ _ | refine blk_drew ?_ | refine blk_alloc ?_ _));refine blk_put (cs := #[.bool false,.string (⟨#[]⟩ : ByteArray),.int .i64 0]) ?_ 0 _ rfl;(with_reducible repeat (first | refine blk_drewN ?_ _ | refine blk_drew ?_ | refine blk_alloc ?_ _));exact BK202.out⟩
 have n4_ : Aside0 (Below w.heap.size w (((w121.setCell ⟨gb202,0,none⟩ (.bool false)).setCell ⟨gb202,1,none⟩ (.string (⟨#[49]⟩ : ByteArray))).setCell ⟨gb202,2,none⟩ (.int .i64 (-2)))) := ⟨by repeat (first | (with_reducible first | exact HB.out | apply below_alloc | apply pw_below_drewN | apply below_drew1 | refine below_set ?_ GE178.out | refine below_set ?_ GE186.out | refine below_set ?_ GE194.out | refine below_set ?_ GE202.out) | exact HB.out)⟩
 (try clear BK178)
 (try clear BK186)
 (try clear BK194)
 (try clear BK202)
 (try clear HB)
 generalize (((w121.setCell ⟨gb202,0,none⟩ (.bool false)).setCell ⟨gb202,1,none⟩ (.string (⟨#[49]⟩ : ByteArray))).setCell ⟨gb202,2,none⟩ (.int .i64 (-2))) = w126 at n0_ n1_ n2_ n3_ n4_ ⊢
 have BK178 := n0_
 have BK186 := n1_
 have BK194 := n2_
 have BK202 := n3_
 have HB := n4_
 clear n0_ n1_ n2_ n3_ n4_
 have n0_ := Aside0.mk (blk_drew BK178.out)
 have n1_ := Aside0.mk (blk_drew BK186.out)
 have n2_ := Aside0.mk (blk_drew BK194.out)
 have n3_ := Aside0.mk (blk_drew BK202.out)
 have n4_ := Aside0.mk (below_drew1 HB.out)
 clear BK178
 clear BK186
 clear BK194
 clear BK202
 clear HB
 have BK178 := n0_
 have BK186 := n1_
 have BK194 := n2_
 have BK202 := n3_
 have HB := n4_
 clear n0_ n1_ n2_ n3_ n4_
 refine start_ (n := 34) (S := fun w' => w'.cell? ⟨gb178,0,none⟩ = some (.bool false) ∧ w'.cell? ⟨gb178,1,none⟩ = some (.string (⟨#[50]⟩ : ByteArray)) ∧ w'.cell? ⟨gb178,2,none⟩ = some (.int .i64 0) ∧ w'.cell? ⟨gb186,0,none⟩ = some (.bool true) ∧ w'.cell? ⟨gb186,1,none⟩ = some (.string (⟨#[]⟩ : ByteArray)) ∧ w'.cell? ⟨gb186,2,none⟩ = some (.int .i64 0) ∧ w'.cell? ⟨gb194,0,none⟩ = some (.bool false) ∧ w'.cell? ⟨gb194,1,none⟩ = some (.string (⟨#[49,50]⟩ : ByteArray)) ∧ w'.cell? ⟨gb194,2,none⟩ = some (.int .i64 2) ∧ w'.cell? ⟨gb202,0,none⟩ = some (.bool false) ∧ w'.cell? ⟨gb202,1,none⟩ = some (.string (⟨#[49]⟩ : ByteArray)) ∧ w'.cell? ⟨gb202,2,none⟩ = some (.int .i64 (-2))) (ds := []) #[false,false,false,false,false,false,false,false,false,false,false,false,false,false,false,false,false,false,false,false,false,false,false,false,false,false,false,false,false,false,false,false,false,false] (by kernel_rfl) rfl rfl ⟨(blk_cell BK178.out 0).trans rfl,(blk_cell BK178.out 1).trans rfl,(blk_cell BK178.out 2).trans rfl,(blk_cell BK186.out 0).trans rfl,(blk_cell BK186.out 1).trans rfl,(blk_cell BK186.out 2).trans rfl,(blk_cell BK194.out 0).trans rfl,(blk_cell BK194.out 1).trans rfl,(blk_cell BK194.out 2).trans rfl,(blk_cell BK202.out 0).trans rfl,(blk_cell BK202.out 1).trans rfl,(blk_cell BK202.out 2).trans rfl⟩ (fun hHeld => ?_);refine with_tabW tabardlaw7_shown.tab17 tabardlaw7_shown.bits17 (fun HT_ HW_ => ?_)
 generalize w126.drew = w127 at BK178 BK186 BK194 BK202 HB hHeld ⊢
 refine take_ (i := 0) (N := some 152) (v := ?_) (a' := ?_) #[true,false,false,false,false,false,false,false,false,false,false,false,false,false,false,false,false,false,false,false,false,false,false,false,false,false,false,false,false,false,false,false,false,false] rfl rfl (take_ofW HT_.out HW_.out (by kernel_rfl)) (fun _ _ _ h => h) (Or.inl ⟨by rfl,?_⟩) hHeld ?_ ?_
 rotate_left
 ·rintro w' ⟨s0,s1,s2,s3,s4,s5,s6,s7,s8,s9,s10,s11⟩
  go_simp
  with_reducible rfl
 rotate_left
 ·simp only [Act.put,List.setIfInBounds_toArray,List.set_cons_zero,List.set_cons_succ,i64_w,i32_w]
  rfl
 refine one_ (i := 1) (N := some 153) #[true,true,false,false,false,false,false,false,false,false,false,false,false,false,false,false,false,false,false,false,false,false,false,false,false,false,false,false,false,false,false,false,false,false] rfl rfl (one_of HT_.out (by kernel_rfl)) (by decide) (fun K hK => ?_)
 refine goes_ Tryz.func13 (by kernel_rfl) rfl #[.bool false,.string (⟨#[50]⟩ : ByteArray),.int .i64 0] (by rfl) rfl rfl (by (try simp only [List.map_toArray,List.map_cons,List.map_nil]);first | done | rfl | (simp only [List.length_drop,List.length_take];rfl)) ?_
 with_reducible refine (tabardlaw7_dec.calls false (⟨#[50]⟩ : ByteArray) 0 false (⟨#[50]⟩ : ByteArray) 0 _ A27.out).mono ?_
 rintro e w128 ⟨rfl,hb⟩
 refine ⟨_,rfl,?_⟩
 have n0_ := Aside0.mk (blk_below (g := gb178) (o := .cells #[.bool false,.string (⟨#[50]⟩ : ByteArray),.int .i64 0] 23 (0,0)) (by (with_reducible repeat (first | refine blk_drewN ?_ _ | refine blk_drew ?_ | refine blk_alloc ?_ _));exact BK178.out) hb)
 have n1_ := Aside0.mk (blk_below (g := gb186) (o := .cells #[.bool true,.string (⟨#[]⟩ : ByteArray),.int .i64 0] 23 (0,0)) (by (with_reducible repeat (first | refine blk_drewN ?_ _ | refine blk_drew ?_ | refine blk_alloc ?_ _));exact BK186.out) hb)
 have n2_ := Aside0.mk (blk_below (g := gb194) (o := .cells #[.bool false,.string (⟨#[49,50]⟩ : ByteArray),.int .i64 2] 23 (0,0)) (by (with_reducible repeat (first | refine blk_drewN ?_ _ | refine blk_drew ?_ | refine blk_alloc ?_ _));exact BK194.out) hb)
 have n3_ := Aside0.mk (blk_below (g := gb202) (o := .cells #[.bool false,.string (⟨#[49]⟩ : ByteArray),.int .i64 (-2)] 23 (0,0)) (by (with_reducible repeat (first | refine blk_drewN ?_ _ | refine blk_drew ?_ | refine blk_alloc ?_ _));exact BK202.out) hb)
 have n4_ := Aside0.mk (below_step (by repeat (first | (with_reducible first | exact HB.out | apply below_alloc | apply pw_below_drewN | apply below_drew1 | refine below_set ?_ GE178.out | refine below_set ?_ GE186.out | refine below_set ?_ GE194.out | refine below_set ?_ GE202.out) | exact HB.out)) hb)
 clear BK178
 clear BK186
 clear BK194
 clear BK202
 clear HB
 have BK178 := n0_
 have BK186 := n1_
 have BK194 := n2_
 have BK202 := n3_
 have HB := n4_
 clear n0_ n1_ n2_ n3_ n4_
 (try clear hb)
 (try clear hb2)
 (try clear hk)
 (try clear hi)
 refine hK.out _ _ ⟨(blk_cell BK178.out 0).trans rfl,(blk_cell BK178.out 1).trans rfl,(blk_cell BK178.out 2).trans rfl,(blk_cell BK186.out 0).trans rfl,(blk_cell BK186.out 1).trans rfl,(blk_cell BK186.out 2).trans rfl,(blk_cell BK194.out 0).trans rfl,(blk_cell BK194.out 1).trans rfl,(blk_cell BK194.out 2).trans rfl,(blk_cell BK202.out 0).trans rfl,(blk_cell BK202.out 1).trans rfl,(blk_cell BK202.out 2).trans rfl⟩ (fun hHeld => ?_)
 clear hK K
 refine norm_ (a' := ?_) ?_ ?_
 rotate_left
 ·show Act.put _ (some 153) _ = _
  simp only [Act.put,List.setIfInBounds_toArray,List.set_cons_zero,List.set_cons_succ,i64_w,i32_w]
  rfl
 refine pure_ (i := 2) (N := some 154) (v := ?_) (a' := ?_) #[true,true,true,false,false,false,false,false,false,false,false,false,false,false,false,false,false,false,false,false,false,false,false,false,false,false,false,false,false,false,false,false,false,false] rfl rfl (any_of HT_.out (by kernel_rfl)) (fun _ _ _ h => h) (Or.inl ⟨by rfl,?_⟩) ?_ ?_
 rotate_left
 ·intro w'
  go_simp
  with_reducible rfl
 rotate_left
 ·simp only [Act.put,List.setIfInBounds_toArray,List.set_cons_zero,List.set_cons_succ,i64_w,i32_w]
  rfl
 refine pure_ (i := 3) (N := some 155) (v := ?_) (a' := ?_) #[true,true,true,true,false,false,false,false,false,false,false,false,false,false,false,false,false,false,false,false,false,false,false,false,false,false,false,false,false,false,false,false,false,false] rfl rfl (any_of HT_.out (by kernel_rfl)) (fun _ _ _ h => h) (Or.inl ⟨by rfl,?_⟩) ?_ ?_
 rotate_left
 ·intro w'
  go_simp
  with_reducible rfl
 rotate_left
 ·simp only [Act.put,List.setIfInBounds_toArray,List.set_cons_zero,List.set_cons_succ,i64_w,i32_w]
  rfl
 refine pure_ (i := 4) (N := some 156) (v := ?_) (a' := ?_) #[true,true,true,true,true,false,false,false,false,false,false,false,false,false,false,false,false,false,false,false,false,false,false,false,false,false,false,false,false,false,false,false,false,false] rfl rfl (any_of HT_.out (by kernel_rfl)) (fun _ _ _ h => h) (Or.inl ⟨by rfl,?_⟩) ?_ ?_
 rotate_left
 ·intro w'
  go_simp
  with_reducible rfl
 rotate_left
 ·simp only [Act.put,List.setIfInBounds_toArray,List.set_cons_zero,List.set_cons_succ,i64_w,i32_w]
  rfl
 refine pure_ (i := 5) (N := some 157) (v := ?_) (a' := ?_) #[true,true,true,true,true,true,false,false,false,false,false,false,false,false,false,false,false,false,false,false,false,false,false,false,false,false,false,false,false,false,false,false,false,false] rfl rfl (any_of HT_.out (by kernel_rfl)) (fun _ _ _ h => h) (Or.inl ⟨by rfl,?_⟩) ?_ ?_
 rotate_left
 ·intro w'
  go_simp
  with_reducible rfl
 rotate_left
 ·simp only [Act.put,List.setIfInBounds_toArray,List.set_cons_zero,List.set_cons_succ,i64_w,i32_w]
  rfl
 refine pure_ (i := 6) (N := some 158) (v := ?_) (a' := ?_) #[true,true,true,true,true,true,true,false,false,false,false,false,false,false,false,false,false,false,false,false,false,false,false,false,false,false,false,false,false,false,false,false,false,false] rfl rfl (any_of HT_.out (by kernel_rfl)) (fun _ _ _ h => h) (Or.inl ⟨by rfl,?_⟩) ?_ ?_
 rotate_left
 ·intro w'
  go_simp
  with_reducible rfl
 rotate_left
 ·simp only [Act.put,List.setIfInBounds_toArray,List.set_cons_zero,List.set_cons_succ,i64_w,i32_w]
  rfl
 refine pure_ (i := 7) (N := some 159) (v := ?_) (a' := ?_) #[true,true,true,true,true,true,true,true,false,false,false,false,false,false,false,false,false,false,false,false,false,false,false,false,false,false,false,false,false,false,false,false,false,false] rfl rfl (any_of HT_.out (by kernel_rfl)) (fun _ _ _ h => h) (Or.inl ⟨by rfl,?_⟩) ?_ ?_
 rotate_left
 ·intro w'
  go_simp
  with_reducible rfl
 rotate_left
 ·simp only [Act.put,List.setIfInBounds_toArray,List.set_cons_zero,List.set_cons_succ,i64_w,i32_w]
  rfl
 refine take_ (i := 8) (N := some 160) (v := ?_) (a' := ?_) #[true,true,true,true,true,true,true,true,true,false,false,false,false,false,false,false,false,false,false,false,false,false,false,false,false,false,false,false,false,false,false,false,false,false] rfl rfl (take_ofW HT_.out HW_.out (by kernel_rfl)) (fun _ _ _ h => h) (Or.inl ⟨by rfl,?_⟩) hHeld ?_ ?_
 rotate_left
 ·rintro w' ⟨s0,s1,s2,s3,s4,s5,s6,s7,s8,s9,s10,s11⟩
  go_simp
  with_reducible rfl
 rotate_left
 ·simp only [Act.put,List.setIfInBounds_toArray,List.set_cons_zero,List.set_cons_succ,i64_w,i32_w]
  rfl
 refine one_ (i := 9) (N := some 161) #[true,true,true,true,true,true,true,true,true,true,false,false,false,false,false,false,false,false,false,false,false,false,false,false,false,false,false,false,false,false,false,false,false,false] rfl rfl (one_of HT_.out (by kernel_rfl)) (by decide) (fun K hK => ?_)
 refine goes_ Tryz.func13 (by kernel_rfl) rfl #[.bool true,.string (⟨#[]⟩ : ByteArray),.int .i64 0] (by rfl) rfl rfl (by (try simp only [List.map_toArray,List.map_cons,List.map_nil]);first | done | rfl | (simp only [List.length_drop,List.length_take];rfl)) ?_
 with_reducible refine (tabardlaw7_dec.calls true (⟨#[]⟩ : ByteArray) 0 true (⟨#[]⟩ : ByteArray) 0 _ A28.out).mono ?_
 rintro e w129 ⟨rfl,hb⟩
 refine ⟨_,rfl,?_⟩
 have n0_ := Aside0.mk (blk_below (g := gb178) (o := .cells #[.bool false,.string (⟨#[50]⟩ : ByteArray),.int .i64 0] 23 (0,0)) (by (with_reducible repeat (first | refine blk_drewN ?_ _ | refine blk_drew ?_ | refine blk_alloc ?_ _));exact BK178.out) hb)
 have n1_ := Aside0.mk (blk_below (g := gb186) (o := .cells #[.bool true,.string (⟨#[]⟩ : ByteArray),.int .i64 0] 23 (0,0)) (by (with_reducible repeat (first | refine blk_drewN ?_ _ | refine blk_drew ?_ | refine blk_alloc ?_ _));exact BK186.out) hb)
 have n2_ := Aside0.mk (blk_below (g := gb194) (o := .cells #[.bool false,.string (⟨#[49,50]⟩ : ByteArray),.int .i64 2] 23 (0,0)) (by (with_reducible repeat (first | refine blk_drewN ?_ _ | refine blk_drew ?_ | refine blk_alloc ?_ _));exact BK194.out) hb)
 have n3_ := Aside0.mk (blk_below (g := gb202) (o := .cells #[.bool false,.string (⟨#[49]⟩ : ByteArray),.int .i64 (-2)] 23 (0,0)) (by (with_reducible repeat (first | refine blk_drewN ?_ _ | refine blk_drew ?_ | refine blk_alloc ?_ _));exact BK202.out) hb)
 have n4_ := Aside0.mk (below_step (by repeat (first | (with_reducible first | exact HB.out | apply below_alloc | apply pw_below_drewN | apply below_drew1 | refine below_set ?_ GE178.out | refine below_set ?_ GE186.out | refine below_set ?_ GE194.out | refine below_set ?_ GE202.out) | exact HB.out)) hb)
 clear BK178
 clear BK186
 clear BK194
 clear BK202
 clear HB
 have BK178 := n0_
 have BK186 := n1_
 have BK194 := n2_
 have BK202 := n3_
 have HB := n4_
 clear n0_ n1_ n2_ n3_ n4_
 (try clear hb)
 (try clear hb2)
 (try clear hk)
 (try clear hi)
 refine hK.out _ _ ⟨(blk_cell BK178.out 0).trans rfl,(blk_cell BK178.out 1).trans rfl,(blk_cell BK178.out 2).trans rfl,(blk_cell BK186.out 0).trans rfl,(blk_cell BK186.out 1).trans rfl,(blk_cell BK186.out 2).trans rfl,(blk_cell BK194.out 0).trans rfl,(blk_cell BK194.out 1).trans rfl,(blk_cell BK194.out 2).trans rfl,(blk_cell BK202.out 0).trans rfl,(blk_cell BK202.out 1).trans rfl,(blk_cell BK202.out 2).trans rfl⟩ (fun hHeld => ?_)
 clear hK K
 refine norm_ (a' := ?_) ?_ ?_
 rotate_left
 ·show Act.put _ (some 161) _ = _
  simp only [Act.put,List.setIfInBounds_toArray,List.set_cons_zero,List.set_cons_succ,i64_w,i32_w]
  rfl
 refine pure_ (i := 10) (N := some 162) (v := ?_) (a' := ?_) #[true,true,true,true,true,true,true,true,true,true,true,false,false,false,false,false,false,false,false,false,false,false,false,false,false,false,false,false,false,false,false,false,false,false] rfl rfl (any_of HT_.out (by kernel_rfl)) (fun _ _ _ h => h) (Or.inl ⟨by rfl,?_⟩) ?_ ?_
 rotate_left
 ·intro w'
  go_simp
  with_reducible rfl
 rotate_left
 ·simp only [Act.put,List.setIfInBounds_toArray,List.set_cons_zero,List.set_cons_succ,i64_w,i32_w]
  rfl
 refine pure_ (i := 11) (N := some 163) (v := ?_) (a' := ?_) #[true,true,true,true,true,true,true,true,true,true,true,true,false,false,false,false,false,false,false,false,false,false,false,false,false,false,false,false,false,false,false,false,false,false] rfl rfl (any_of HT_.out (by kernel_rfl)) (fun _ _ _ h => h) (Or.inl ⟨by rfl,?_⟩) ?_ ?_
 rotate_left
 ·intro w'
  go_simp
  with_reducible rfl
 rotate_left
 ·simp only [Act.put,List.setIfInBounds_toArray,List.set_cons_zero,List.set_cons_succ,i64_w,i32_w]
  rfl
 refine pure_ (i := 12) (N := some 164) (v := ?_) (a' := ?_) #[true,true,true,true,true,true,true,true,true,true,true,true,true,false,false,false,false,false,false,false,false,false,false,false,false,false,false,false,false,false,false,false,false,false] rfl rfl (any_of HT_.out (by kernel_rfl)) (fun _ _ _ h => h) (Or.inl ⟨by rfl,?_⟩) ?_ ?_
 rotate_left
 ·intro w'
  go_simp
  with_reducible rfl
 rotate_left
 ·simp only [Act.put,List.setIfInBounds_toArray,List.set_cons_zero,List.set_cons_succ,i64_w,i32_w]
  rfl
 refine pure_ (i := 13) (N := some 165) (v := ?_) (a' := ?_) #[true,true,true,true,true,true,true,true,true,true,true,true,true,true,false,false,false,false,false,false,false,false,false,false,false,false,false,false,false,false,false,false,false,false] rfl rfl (any_of HT_.out (by kernel_rfl)) (fun _ _ _ h => h) (Or.inl ⟨by rfl,?_⟩) ?_ ?_
 rotate_left
 ·intro w'
  go_simp
  with_reducible rfl
 rotate_left
 ·simp only [Act.put,List.setIfInBounds_toArray,List.set_cons_zero,List.set_cons_succ,i64_w,i32_w]
  rfl
 refine pure_ (i := 14) (N := some 166) (v := ?_) (a' := ?_) #[true,true,true,true,true,true,true,true,true,true,true,true,true,true,true,false,false,false,false,false,false,false,false,false,false,false,false,false,false,false,false,false,false,false] rfl rfl (any_of HT_.out (by kernel_rfl)) (fun _ _ _ h => h) (Or.inl ⟨by rfl,?_⟩) ?_ ?_
 rotate_left
 ·intro w'
  go_simp
  with_reducible rfl
 rotate_left
 ·simp only [Act.put,List.setIfInBounds_toArray,List.set_cons_zero,List.set_cons_succ,i64_w,i32_w]
  rfl
 refine pure_ (i := 15) (N := some 167) (v := ?_) (a' := ?_) #[true,true,true,true,true,true,true,true,true,true,true,true,true,true,true,true,false,false,false,false,false,false,false,false,false,false,false,false,false,false,false,false,false,false] rfl rfl (any_of HT_.out (by kernel_rfl)) (fun _ _ _ h => h) (Or.inl ⟨by rfl,?_⟩) ?_ ?_
 rotate_left
 ·intro w'
  go_simp
  with_reducible rfl
 rotate_left
 ·simp only [Act.put,List.setIfInBounds_toArray,List.set_cons_zero,List.set_cons_succ,i64_w,i32_w]
  rfl
 refine pure_ (i := 16) (N := some 168) (v := ?_) (a' := ?_) #[true,true,true,true,true,true,true,true,true,true,true,true,true,true,true,true,true,false,false,false,false,false,false,false,false,false,false,false,false,false,false,false,false,false] rfl rfl (any_of HT_.out (by kernel_rfl)) (fun _ _ _ h => h) (Or.inl ⟨by rfl,?_⟩) ?_ ?_
 rotate_left
 ·intro w'
  go_simp
  with_reducible rfl
 rotate_left
 ·simp only [Act.put,List.setIfInBounds_toArray,List.set_cons_zero,List.set_cons_succ,i64_w,i32_w]
  rfl
 refine take_ (i := 17) (N := some 169) (v := ?_) (a' := ?_) #[true,true,true,true,true,true,true,true,true,true,true,true,true,true,true,true,true,true,false,false,false,false,false,false,false,false,false,false,false,false,false,false,false,false] rfl rfl (take_ofW HT_.out HW_.out (by kernel_rfl)) (fun _ _ _ h => h) (Or.inl ⟨by rfl,?_⟩) hHeld ?_ ?_
 rotate_left
 ·rintro w' ⟨s0,s1,s2,s3,s4,s5,s6,s7,s8,s9,s10,s11⟩
  go_simp
  with_reducible rfl
 rotate_left
 ·simp only [Act.put,List.setIfInBounds_toArray,List.set_cons_zero,List.set_cons_succ,i64_w,i32_w]
  rfl
 refine one_ (i := 18) (N := some 170) #[true,true,true,true,true,true,true,true,true,true,true,true,true,true,true,true,true,true,true,false,false,false,false,false,false,false,false,false,false,false,false,false,false,false] rfl rfl (one_of HT_.out (by kernel_rfl)) (by decide) (fun K hK => ?_)
 refine goes_ Tryz.func13 (by kernel_rfl) rfl #[.bool false,.string (⟨#[49,50]⟩ : ByteArray),.int .i64 2] (by rfl) rfl rfl (by (try simp only [List.map_toArray,List.map_cons,List.map_nil]);first | done | rfl | (simp only [List.length_drop,List.length_take];rfl)) ?_
 with_reducible refine (tabardlaw7_dec.calls false (⟨#[49,50]⟩ : ByteArray) 2 false (⟨#[49,50]⟩ : ByteArray) 2 _ A29.out).mono ?_
 rintro e w130 ⟨rfl,hb⟩
 refine ⟨_,rfl,?_⟩
 have n0_ := Aside0.mk (blk_below (g := gb178) (o := .cells #[.bool false,.string (⟨#[50]⟩ : ByteArray),.int .i64 0] 23 (0,0)) (by (with_reducible repeat (first | refine blk_drewN ?_ _ | refine blk_drew ?_ | refine blk_alloc ?_ _));exact BK178.out) hb)
 have n1_ := Aside0.mk (blk_below (g := gb186) (o := .cells #[.bool true,.string (⟨#[]⟩ : ByteArray),.int .i64 0] 23 (0,0)) (by (with_reducible repeat (first | refine blk_drewN ?_ _ | refine blk_drew ?_ | refine blk_alloc ?_ _));exact BK186.out) hb)
 have n2_ := Aside0.mk (blk_below (g := gb194) (o := .cells #[.bool false,.string (⟨#[49,50]⟩ : ByteArray),.int .i64 2] 23 (0,0)) (by (with_reducible repeat (first | refine blk_drewN ?_ _ | refine blk_drew ?_ | refine blk_alloc ?_ _));exact BK194.out) hb)
 have n3_ := Aside0.mk (blk_below (g := gb202) (o := .cells #[.bool false,.string (⟨#[49]⟩ : ByteArray),.int .i64 (-2)] 23 (0,0)) (by (with_reducible repeat (first | refine blk_drewN ?_ _ | refine blk_drew ?_ | refine blk_alloc ?_ _));exact BK202.out) hb)
 have n4_ := Aside0.mk (below_step (by repeat (first | (with_reducible first | exact HB.out | apply below_alloc | apply pw_below_drewN | apply below_drew1 | refine below_set ?_ GE178.out | refine below_set ?_ GE186.out | refine below_set ?_ GE194.out | refine below_set ?_ GE202.out) | exact HB.out)) hb)
 clear BK178
 clear BK186
 clear BK194
 clear BK202
 clear HB
 have BK178 := n0_
 have BK186 := n1_
 have BK194 := n2_
 have BK202 := n3_
 have HB := n4_
 clear n0_ n1_ n2_ n3_ n4_
 (try clear hb)
 (try clear hb2)
 (try clear hk)
 (try clear hi)
 refine hK.out _ _ ⟨(blk_cell BK178.out 0).trans rfl,(blk_cell BK178.out 1).trans rfl,(blk_cell BK178.out 2).trans rfl,(blk_cell BK186.out 0).trans rfl,(blk_cell BK186.out 1).trans rfl,(blk_cell BK186.out 2).trans rfl,(blk_cell BK194.out 0).trans rfl,(blk_cell BK194.out 1).trans rfl,(blk_cell BK194.out 2).trans rfl,(blk_cell BK202.out 0).trans rfl,(blk_cell BK202.out 1).trans rfl,(blk_cell BK202.out 2).trans rfl⟩ (fun hHeld => ?_)
 clear hK K
 refine norm_ (a' := ?_) ?_ ?_
 rotate_left
 ·show Act.put _ (some 170) _ = _
  simp only [Act.put,List.setIfInBounds_toArray,List.set_cons_zero,List.set_cons_succ,i64_w,i32_w]
  rfl
 refine pure_ (i := 19) (N := some 171) (v := ?_) (a' := ?_) #[true,true,true,true,true,true,true,true,true,true,true,true,true,true,true,true,true,true,true,true,false,false,false,false,false,false,false,false,false,false,false,false,false,false] rfl rfl (any_of HT_.out (by kernel_rfl)) (fun _ _ _ h => h) (Or.inl ⟨by rfl,?_⟩) ?_ ?_
 rotate_left
 ·intro w'
  go_simp
  with_reducible rfl
 rotate_left
 ·simp only [Act.put,List.setIfInBounds_toArray,List.set_cons_zero,List.set_cons_succ,i64_w,i32_w]
  rfl
 refine pure_ (i := 20) (N := some 172) (v := ?_) (a' := ?_) #[true,true,true,true,true,true,true,true,true,true,true,true,true,true,true,true,true,true,true,true,true,false,false,false,false,false,false,false,false,false,false,false,false,false] rfl rfl (any_of HT_.out (by kernel_rfl)) (fun _ _ _ h => h) (Or.inl ⟨by rfl,?_⟩) ?_ ?_
 rotate_left
 ·intro w'
  go_simp
  with_reducible rfl
 rotate_left
 ·simp only [Act.put,List.setIfInBounds_toArray,List.set_cons_zero,List.set_cons_succ,i64_w,i32_w]
  rfl
 refine pure_ (i := 21) (N := some 173) (v := ?_) (a' := ?_) #[true,true,true,true,true,true,true,true,true,true,true,true,true,true,true,true,true,true,true,true,true,true,false,false,false,false,false,false,false,false,false,false,false,false] rfl rfl (any_of HT_.out (by kernel_rfl)) (fun _ _ _ h => h) (Or.inl ⟨by rfl,?_⟩) ?_ ?_
 rotate_left
 ·intro w'
  go_simp
  with_reducible rfl
 rotate_left
 ·simp only [Act.put,List.setIfInBounds_toArray,List.set_cons_zero,List.set_cons_succ,i64_w,i32_w]
  rfl
 refine pure_ (i := 22) (N := some 174) (v := ?_) (a' := ?_) #[true,true,true,true,true,true,true,true,true,true,true,true,true,true,true,true,true,true,true,true,true,true,true,false,false,false,false,false,false,false,false,false,false,false] rfl rfl (any_of HT_.out (by kernel_rfl)) (fun _ _ _ h => h) (Or.inl ⟨by rfl,?_⟩) ?_ ?_
 rotate_left
 ·intro w'
  go_simp
  with_reducible rfl
 rotate_left
 ·simp only [Act.put,List.setIfInBounds_toArray,List.set_cons_zero,List.set_cons_succ,i64_w,i32_w]
  rfl
 refine pure_ (i := 23) (N := some 175) (v := ?_) (a' := ?_) #[true,true,true,true,true,true,true,true,true,true,true,true,true,true,true,true,true,true,true,true,true,true,true,true,false,false,false,false,false,false,false,false,false,false] rfl rfl (any_of HT_.out (by kernel_rfl)) (fun _ _ _ h => h) (Or.inl ⟨by rfl,?_⟩) ?_ ?_
 rotate_left
 ·intro w'
  go_simp
  with_reducible rfl
 rotate_left
 ·simp only [Act.put,List.setIfInBounds_toArray,List.set_cons_zero,List.set_cons_succ,i64_w,i32_w]
  rfl
 refine pure_ (i := 24) (N := some 176) (v := ?_) (a' := ?_) #[true,true,true,true,true,true,true,true,true,true,true,true,true,true,true,true,true,true,true,true,true,true,true,true,true,false,false,false,false,false,false,false,false,false] rfl rfl (any_of HT_.out (by kernel_rfl)) (fun _ _ _ h => h) (Or.inl ⟨by rfl,?_⟩) ?_ ?_
 rotate_left
 ·intro w'
  go_simp
  with_reducible rfl
 rotate_left
 ·simp only [Act.put,List.setIfInBounds_toArray,List.set_cons_zero,List.set_cons_succ,i64_w,i32_w]
  rfl
 refine pure_ (i := 25) (N := some 177) (v := ?_) (a' := ?_) #[true,true,true,true,true,true,true,true,true,true,true,true,true,true,true,true,true,true,true,true,true,true,true,true,true,true,false,false,false,false,false,false,false,false] rfl rfl (any_of HT_.out (by kernel_rfl)) (fun _ _ _ h => h) (Or.inl ⟨by rfl,?_⟩) ?_ ?_
 rotate_left
 ·intro w'
  go_simp
  with_reducible rfl
 rotate_left
 ·simp only [Act.put,List.setIfInBounds_toArray,List.set_cons_zero,List.set_cons_succ,i64_w,i32_w]
  rfl
 refine take_ (i := 26) (N := some 178) (v := ?_) (a' := ?_) #[true,true,true,true,true,true,true,true,true,true,true,true,true,true,true,true,true,true,true,true,true,true,true,true,true,true,true,false,false,false,false,false,false,false] rfl rfl (take_ofW HT_.out HW_.out (by kernel_rfl)) (fun _ _ _ h => h) (Or.inl ⟨by rfl,?_⟩) hHeld ?_ ?_
 rotate_left
 ·rintro w' ⟨s0,s1,s2,s3,s4,s5,s6,s7,s8,s9,s10,s11⟩
  go_simp
  with_reducible rfl
 rotate_left
 ·simp only [Act.put,List.setIfInBounds_toArray,List.set_cons_zero,List.set_cons_succ,i64_w,i32_w]
  rfl
 refine one_ (i := 27) (N := some 179) #[true,true,true,true,true,true,true,true,true,true,true,true,true,true,true,true,true,true,true,true,true,true,true,true,true,true,true,true,false,false,false,false,false,false] rfl rfl (one_of HT_.out (by kernel_rfl)) (by decide) (fun K hK => ?_)
 refine goes_ Tryz.func13 (by kernel_rfl) rfl #[.bool false,.string (⟨#[49]⟩ : ByteArray),.int .i64 (-2)] (by rfl) rfl rfl (by (try simp only [List.map_toArray,List.map_cons,List.map_nil]);first | done | rfl | (simp only [List.length_drop,List.length_take];rfl)) ?_
 with_reducible refine (tabardlaw7_dec.calls false (⟨#[49]⟩ : ByteArray) (-2) false (⟨#[49]⟩ : ByteArray) (-2) _ A30.out).mono ?_
 rintro e w131 ⟨rfl,hb⟩
 refine ⟨_,rfl,?_⟩
 have n0_ := Aside0.mk (blk_below (g := gb178) (o := .cells #[.bool false,.string (⟨#[50]⟩ : ByteArray),.int .i64 0] 23 (0,0)) (by (with_reducible repeat (first | refine blk_drewN ?_ _ | refine blk_drew ?_ | refine blk_alloc ?_ _));exact BK178.out) hb)
 have n1_ := Aside0.mk (blk_below (g := gb186) (o := .cells #[.bool true,.string (⟨#[]⟩ : ByteArray),.int .i64 0] 23 (0,0)) (by (with_reducible repeat (first | refine blk_drewN ?_ _ | refine blk_drew ?_ | refine blk_alloc ?_ _));exact BK186.out) hb)
 have n2_ := Aside0.mk (blk_below (g := gb194) (o := .cells #[.bool false,.string (⟨#[49,50]⟩ : ByteArray),.int .i64 2] 23 (0,0)) (by (with_reducible repeat (first | refine blk_drewN ?_ _ | refine blk_drew ?_ | refine blk_alloc ?_ _));exact BK194.out) hb)
 have n3_ := Aside0.mk (blk_below (g := gb202) (o := .cells #[.bool false,.string (⟨#[49]⟩ : ByteArray),.int .i64 (-2)] 23 (0,0)) (by (with_reducible repeat (first | refine blk_drewN ?_ _ | refine blk_drew ?_ | refine blk_alloc ?_ _));exact BK202.out) hb)
 have n4_ := Aside0.mk (below_step (by repeat (first | (with_reducible first | exact HB.out | apply below_alloc | apply pw_below_drewN | apply below_drew1 | refine below_set ?_ GE178.out | refine below_set ?_ GE186.out | refine below_set ?_ GE194.out | refine below_set ?_ GE202.out) | exact HB.out)) hb)
 clear BK178
 clear BK186
 clear BK194
 clear BK202
 clear HB
 have BK178 := n0_
 have BK186 := n1_
 have BK194 := n2_
 have BK202 := n3_
 have HB := n4_
 clear n0_ n1_ n2_ n3_ n4_
 (try clear hb)
 (try clear hb2)
 (try clear hk)
 (try clear hi)
 refine hK.out _ _ ⟨(blk_cell BK178.out 0).trans rfl,(blk_cell BK178.out 1).trans rfl,(blk_cell BK178.out 2).trans rfl,(blk_cell BK186.out 0).trans rfl,(blk_cell BK186.out 1).trans rfl,(blk_cell BK186.out 2).trans rfl,(blk_cell BK194.out 0).trans rfl,(blk_cell BK194.out 1).trans rfl,(blk_cell BK194.out 2).trans rfl,(blk_cell BK202.out 0).trans rfl,(blk_cell BK202.out 1).trans rfl,(blk_cell BK202.out 2).trans rfl⟩ (fun hHeld => ?_)
 clear hK K
 refine norm_ (a' := ?_) ?_ ?_
 rotate_left
 ·show Act.put _ (some 179) _ = _
  simp only [Act.put,List.setIfInBounds_toArray,List.set_cons_zero,List.set_cons_succ,i64_w,i32_w]
  rfl
 refine pure_ (i := 28) (N := some 180) (v := ?_) (a' := ?_) #[true,true,true,true,true,true,true,true,true,true,true,true,true,true,true,true,true,true,true,true,true,true,true,true,true,true,true,true,true,false,false,false,false,false] rfl rfl (any_of HT_.out (by kernel_rfl)) (fun _ _ _ h => h) (Or.inl ⟨by rfl,?_⟩) ?_ ?_
 rotate_left
 ·intro w'
  go_simp
  with_reducible rfl
 rotate_left
 ·simp only [Act.put,List.setIfInBounds_toArray,List.set_cons_zero,List.set_cons_succ,i64_w,i32_w]
  rfl
 refine pure_ (i := 29) (N := some 181) (v := ?_) (a' := ?_) #[true,true,true,true,true,true,true,true,true,true,true,true,true,true,true,true,true,true,true,true,true,true,true,true,true,true,true,true,true,true,false,false,false,false] rfl rfl (any_of HT_.out (by kernel_rfl)) (fun _ _ _ h => h) (Or.inl ⟨by rfl,?_⟩) ?_ ?_
 rotate_left
 ·intro w'
  go_simp
  with_reducible rfl
 rotate_left
 ·simp only [Act.put,List.setIfInBounds_toArray,List.set_cons_zero,List.set_cons_succ,i64_w,i32_w]
  rfl
 refine pure_ (i := 30) (N := some 182) (v := ?_) (a' := ?_) #[true,true,true,true,true,true,true,true,true,true,true,true,true,true,true,true,true,true,true,true,true,true,true,true,true,true,true,true,true,true,true,false,false,false] rfl rfl (any_of HT_.out (by kernel_rfl)) (fun _ _ _ h => h) (Or.inl ⟨by rfl,?_⟩) ?_ ?_
 rotate_left
 ·intro w'
  go_simp
  with_reducible rfl
 rotate_left
 ·simp only [Act.put,List.setIfInBounds_toArray,List.set_cons_zero,List.set_cons_succ,i64_w,i32_w]
  rfl
 refine pure_ (i := 31) (N := some 183) (v := ?_) (a' := ?_) #[true,true,true,true,true,true,true,true,true,true,true,true,true,true,true,true,true,true,true,true,true,true,true,true,true,true,true,true,true,true,true,true,false,false] rfl rfl (any_of HT_.out (by kernel_rfl)) (fun _ _ _ h => h) (Or.inl ⟨by rfl,?_⟩) ?_ ?_
 rotate_left
 ·intro w'
  go_simp
  with_reducible rfl
 rotate_left
 ·simp only [Act.put,List.setIfInBounds_toArray,List.set_cons_zero,List.set_cons_succ,i64_w,i32_w]
  rfl
 refine pure_ (i := 32) (N := some 184) (v := ?_) (a' := ?_) #[true,true,true,true,true,true,true,true,true,true,true,true,true,true,true,true,true,true,true,true,true,true,true,true,true,true,true,true,true,true,true,true,true,false] rfl rfl (any_of HT_.out (by kernel_rfl)) (fun _ _ _ h => h) (Or.inl ⟨by rfl,?_⟩) ?_ ?_
 rotate_left
 ·intro w'
  go_simp
  with_reducible rfl
 rotate_left
 ·simp only [Act.put,List.setIfInBounds_toArray,List.set_cons_zero,List.set_cons_succ,i64_w,i32_w]
  rfl
 refine pure_ (i := 33) (N := some 185) (v := ?_) (a' := ?_) #[true,true,true,true,true,true,true,true,true,true,true,true,true,true,true,true,true,true,true,true,true,true,true,true,true,true,true,true,true,true,true,true,true,true] rfl rfl (any_of HT_.out (by kernel_rfl)) (fun _ _ _ h => h) (Or.inl ⟨by rfl,?_⟩) ?_ ?_
 rotate_left
 ·intro w'
  go_simp
  with_reducible rfl
 rotate_left
 ·simp only [Act.put,List.setIfInBounds_toArray,List.set_cons_zero,List.set_cons_succ,i64_w,i32_w]
  rfl
 refine done_ (done_of HT_.out (by kernel_rfl)) ?_
 try go_wp2_with (first | ((with_reducible refine gate_callee (f := 16) rfl ?_);refine goesL_ (some 187) rfl rfl Tryz.func16 (by kernel_rfl) rfl #[.string (⟨#[45,49,50,46,53,48,101,45,51]⟩ : ByteArray)] rfl (by (try simp only [List.map_toArray,List.map_cons,List.map_nil]);first | done | rfl | (simp only [List.length_drop,List.length_take];rfl)) ?_;(with_reducible refine (decimal_Parse.calls k (⟨#[45,49,50,46,53,48,101,45,51]⟩ : ByteArray) true (⟨#[49,50,53]⟩ : ByteArray) (-4) 0 _ A31.out).mono ?_);rintro e w132 ⟨rfl,hb⟩;refine ⟨_,rfl,?_⟩;have n0_ := Aside0.mk (below_step (by repeat (first | (with_reducible first | exact HB.out | apply below_alloc | apply pw_below_drewN | apply below_drew1) | exact HB.out)) hb);clear HB;have HB := n0_;clear n0_;(try clear hb);(try clear hb2);(try clear hk);(try clear hi)) | ((with_reducible refine gate_dst (N := 25) rfl ?_);refine box_event ?hg (N := 25) ?hd (cs := #[.bool false,.string (⟨#[]⟩ : ByteArray),.int .i64 0]) (t := 23) ?hr ?_;(case hd => rfl);(case hg => rfl);(case hr => first | (go_simp;done) | (go_simp;rfl));intro gb219 hg w133 hbox hb;have n0_ := Aside0.mk (below_step (by repeat (first | (with_reducible first | exact HB.out | apply below_alloc | apply pw_below_drewN | apply below_drew1) | exact HB.out)) hb);have n1_ := Aside0.mk (hbox);have n2_ := Aside0.mk ((by rw [hg];exact (below_size (by repeat (first | (with_reducible first | exact HB.out | apply below_alloc | apply pw_below_drewN | apply below_drew1) | exact HB.out))) : w.heap.size ≤ gb219));have n3_ := Aside0.mk ((by rw [hg];exact (below_size (by repeat (first | (with_reducible first | exact HB.out | apply below_alloc | apply pw_below_drewN | apply below_drew1) | exact HB.out))) : w.heap.size ≤ gb219));clear HB;have HB := n0_;have BK219 := n1_;have GW219 := n2_;have GE219 := n3_;clear n0_ n1_ n2_ n3_;clear hb hbox hg;have hcz134_0 : w133.cell? ⟨gb219,0,none⟩ = some (.bool false) := (blk_cell BK219.out 0).trans rfl;have hcz134_1 : w133.cell? ⟨gb219,1,none⟩ = some (.string (⟨#[]⟩ : ByteArray)) := (blk_cell BK219.out 1).trans rfl;have hcz134_2 : w133.cell? ⟨gb219,2,none⟩ = some (.int .i64 0) := (blk_cell BK219.out 2).trans rfl;have hfz134_0 := blk_frozen BK219.out 0;have hfz134_1 := blk_frozen BK219.out 1;have hfz134_2 := blk_frozen BK219.out 2) | ((with_reducible refine gate_callee (f := 16) rfl ?_);refine goesL_ (some 191) rfl rfl Tryz.func16 (by kernel_rfl) rfl #[.string (⟨#[46,53]⟩ : ByteArray)] rfl (by (try simp only [List.map_toArray,List.map_cons,List.map_nil]);first | done | rfl | (simp only [List.length_drop,List.length_take];rfl)) ?_;(with_reducible refine (decimal_Parse.calls k (⟨#[46,53]⟩ : ByteArray) false (⟨#[53]⟩ : ByteArray) (-1) 0 _ A32.out).mono ?_);rintro e w135 ⟨rfl,hb⟩;refine ⟨_,rfl,?_⟩;have n0_ := Aside0.mk (blk_below (g := gb219) (o := .cells #[.bool true,.string (⟨#[49,50,53]⟩ : ByteArray),.int .i64 (-4)] 23 (0,0)) (by (with_reducible repeat (first | refine blk_drewN ?_ _ | refine blk_drew ?_ | refine blk_alloc ?_ _));refine blk_put (cs := #[.bool true,.string (⟨#[49,50,53]⟩ : ByteArray),.int .i64 0]) ?_ 2 _ rfl;(with_reducible repeat (first | refine blk_drewN ?_ _ | refine blk_drew ?_ | refine blk_alloc ?_ _));refine blk_put (cs := #[.bool true,.string (⟨#[]⟩ : ByteArray),.int .i64 0]) ?_ 1 _ rfl;(with_reducible repeat (first | refine blk_drewN ?_ _ | refine blk_drew ?_ | refine blk_alloc ?_ _));refine blk_put (cs := #[.bool false,.string (⟨#[]⟩ : ByteArray),.int .i64 0]) ?_ 0 _ rfl;(with_reducible repeat (first | refine blk_drewN ?_ _ | refine blk_drew ?_ | refine blk_alloc ?_ _));exact BK219.out) hb);have n1_ := Aside0.mk (below_step (by repeat (first | (with_reducible first | exact HB.out | apply below_alloc | apply pw_below_drewN | apply below_drew1 | refine below_set ?_ GE219.out) | exact HB.out)) hb);clear BK219;clear HB;have BK219 := n0_;have HB := n1_;clear n0_ n1_;(try clear hb);(try clear hb2);(try clear hk);(try clear hi)) | ((with_reducible refine gate_dst (N := 27) rfl ?_);refine box_event ?hg (N := 27) ?hd (cs := #[.bool false,.string (⟨#[]⟩ : ByteArray),.int .i64 0]) (t := 23) ?hr ?_;(case hd => rfl);(case hg => rfl);(case hr => first | (go_simp;done) | (go_simp;rfl));intro gb224 hg w136 hbox hb;have n0_ := Aside0.mk (blk_below (g := gb219) (o := .cells #[.bool true,.string (⟨#[49,50,53]⟩ : ByteArray),.int .i64 (-4)] 23 (0,0)) (by (with_reducible repeat (first | refine blk_drewN ?_ _ | refine blk_drew ?_ | refine blk_alloc ?_ _));exact BK219.out) hb);have n1_ := Aside0.mk (below_step (by repeat (first | (with_reducible first | exact HB.out | apply below_alloc | apply pw_below_drewN | apply below_drew1 | refine below_set ?_ GE219.out) | exact HB.out)) hb);have n2_ := Aside0.mk (hbox);have n3_ := Aside0.mk ((by rw [hg];exact (below_size (by repeat (first | (with_reducible first | exact HB.out | apply below_alloc | apply pw_below_drewN | apply below_drew1 | refine below_set ?_ GE219.out) | exact HB.out))) : w.heap.size ≤ gb224));have n4_ := Aside0.mk ((by rw [hg];exact (below_size (by repeat (first | (with_reducible first | exact HB.out | apply below_alloc | apply pw_below_drewN | apply below_drew1 | refine below_set ?_ GE219.out) | exact HB.out))) : w.heap.size ≤ gb224));have n5_ := Aside0.mk ((by rw [hg];exact Nat.ne_of_lt (blk_lt (g := gb219) (o := .cells #[.bool true,.string (⟨#[49,50,53]⟩ : ByteArray),.int .i64 (-4)] 23 (0,0)) (by (with_reducible repeat (first | refine blk_drewN ?_ _ | refine blk_drew ?_ | refine blk_alloc ?_ _));exact BK219.out)) : gb219 ≠ gb224));have n6_ := Aside0.mk ((by rw [hg];exact Nat.ne_of_gt (blk_lt (g := gb219) (o := .cells #[.bool true,.string (⟨#[49,50,53]⟩ : ByteArray),.int .i64 (-4)] 23 (0,0)) (by (with_reducible repeat (first | refine blk_drewN ?_ _ | refine blk_drew ?_ | refine blk_alloc ?_ _));exact BK219.out)) : gb224 ≠ gb219));clear BK219;clear HB;have BK219 := n0_;have HB := n1_;have BK224 := n2_;have GW224 := n3_;have GE224 := n4_;have NB219_224 := n5_;have NB224_219 := n6_;clear n0_ n1_ n2_ n3_ n4_ n5_ n6_;clear hb hbox hg;have hnb137 := NB224_219.out;have hnc137 := NB219_224.out;have hcz138_0 : w136.cell? ⟨gb224,0,none⟩ = some (.bool false) := (blk_cell BK224.out 0).trans rfl;have hcz138_1 : w136.cell? ⟨gb224,1,none⟩ = some (.string (⟨#[]⟩ : ByteArray)) := (blk_cell BK224.out 1).trans rfl;have hcz138_2 : w136.cell? ⟨gb224,2,none⟩ = some (.int .i64 0) := (blk_cell BK224.out 2).trans rfl;have hfz138_0 := blk_frozen BK224.out 0;have hfz138_1 := blk_frozen BK224.out 1;have hfz138_2 := blk_frozen BK224.out 2) | ((with_reducible refine gate_callee (f := 16) rfl ?_);refine goesL_ (some 195) rfl rfl Tryz.func16 (by kernel_rfl) rfl #[.string (⟨#[53,46]⟩ : ByteArray)] rfl (by (try simp only [List.map_toArray,List.map_cons,List.map_nil]);first | done | rfl | (simp only [List.length_drop,List.length_take];rfl)) ?_;(with_reducible refine (decimal_Parse.calls k (⟨#[53,46]⟩ : ByteArray) false (⟨#[53]⟩ : ByteArray) 0 0 _ A33.out).mono ?_);rintro e w139 ⟨rfl,hb⟩;refine ⟨_,rfl,?_⟩;have n0_ := Aside0.mk (blk_below (g := gb219) (o := .cells #[.bool true,.string (⟨#[49,50,53]⟩ : ByteArray),.int .i64 (-4)] 23 (0,0)) (by (with_reducible repeat (first | refine blk_drewN ?_ _ | refine blk_drew ?_ | refine blk_alloc ?_ _));refine blk_far ?_ NB219_224.out _;(with_reducible repeat (first | refine blk_drewN ?_ _ | refine blk_drew ?_ | refine blk_alloc ?_ _));refine blk_far ?_ NB219_224.out _;(with_reducible repeat (first | refine blk_drewN ?_ _ | refine blk_drew ?_ | refine blk_alloc ?_ _));refine blk_far ?_ NB219_224.out _;(with_reducible repeat (first | refine blk_drewN ?_ _ | refine blk_drew ?_ | refine blk_alloc ?_ _));exact BK219.out) hb);have n1_ := Aside0.mk (blk_below (g := gb224) (o := .cells #[.bool false,.string (⟨#[53]⟩ : ByteArray),.int .i64 (-1)] 23 (0,0)) (by (with_reducible repeat (first | refine blk_drewN ?_ _ | refine blk_drew ?_ | refine blk_alloc ?_ _));refine blk_put (cs := #[.bool false,.string (⟨#[53]⟩ : ByteArray),.int .i64 0]) ?_ 2 _ rfl;(with_reducible repeat (first | refine blk_drewN ?_ _ | refine blk_drew ?_ | refine blk_alloc ?_ _));refine blk_put (cs := #[.bool false,.string (⟨#[]⟩ : ByteArray),.int .i64 0]) ?_ 1 _ rfl;(with_reducible repeat (first | refine blk_drewN ?_ _ | refine blk_drew ?_ | refine blk_alloc ?_ _));refine blk_put (cs := #[.bool false,.string (⟨#[]⟩ : ByteArray),.int .i64 0]) ?_ 0 _ rfl;(with_reducible repeat (first | refine blk_drewN ?_ _ | refine blk_drew ?_ | refine blk_alloc ?_ _));exact BK224.out) hb);have n2_ := Aside0.mk (below_step (by repeat (first | (with_reducible first | exact HB.out | apply below_alloc | apply pw_below_drewN | apply below_drew1 | refine below_set ?_ GE219.out | refine below_set ?_ GE224.out) | exact HB.out)) hb);clear BK219;clear BK224;clear HB;have BK219 := n0_;have BK224 := n1_;have HB := n2_;clear n0_ n1_ n2_;(try clear hb);(try clear hb2);(try clear hk);(try clear hi)) | ((with_reducible refine gate_dst (N := 29) rfl ?_);refine box_event ?hg (N := 29) ?hd (cs := #[.bool false,.string (⟨#[]⟩ : ByteArray),.int .i64 0]) (t := 23) ?hr ?_;(case hd => rfl);(case hg => rfl);(case hr => first | (go_simp;done) | (go_simp;rfl));intro gb229 hg w140 hbox hb;have n0_ := Aside0.mk (blk_below (g := gb219) (o := .cells #[.bool true,.string (⟨#[49,50,53]⟩ : ByteArray),.int .i64 (-4)] 23 (0,0)) (by (with_reducible repeat (first | refine blk_drewN ?_ _ | refine blk_drew ?_ | refine blk_alloc ?_ _));exact BK219.out) hb);have n1_ := Aside0.mk (blk_below (g := gb224) (o := .cells #[.bool false,.string (⟨#[53]⟩ : ByteArray),.int .i64 (-1)] 23 (0,0)) (by (with_reducible repeat (first | refine blk_drewN ?_ _ | refine blk_drew ?_ | refine blk_alloc ?_ _));exact BK224.out) hb);have n2_ := Aside0.mk (below_step (by repeat (first | (with_reducible first | exact HB.out | apply below_alloc | apply pw_below_drewN | apply below_drew1 | refine below_set ?_ GE219.out | refine below_set ?_ GE224.out) | exact HB.out)) hb);have n3_ := Aside0.mk (hbox);have n4_ := Aside0.mk ((by rw [hg];exact (below_size (by repeat (first | (with_reducible first | exact HB.out | apply below_alloc | apply pw_below_drewN | apply below_drew1 | refine below_set ?_ GE219.out | refine below_set ?_ GE224.out) | exact HB.out))) : w.heap.size ≤ gb229));have n5_ := Aside0.mk ((by rw [hg];exact (below_size (by repeat (first | (with_reducible first | exact HB.out | apply below_alloc | apply pw_below_drewN | apply below_drew1 | refine below_set ?_ GE219.out | refine below_set ?_ GE224.out) | exact HB.out))) : w.heap.size ≤ gb229));have n6_ := Aside0.mk ((by rw [hg];exact Nat.ne_of_lt (blk_lt (g := gb219) (o := .cells #[.bool true,.string (⟨#[49,50,53]⟩ : ByteArray),.int .i64 (-4)] 23 (0,0)) (by (with_reducible repeat (first | refine blk_drewN ?_ _ | refine blk_drew ?_ | refine blk_alloc ?_ _));exact BK219.out)) : gb219 ≠ gb229));have n7_ := Aside0.mk ((by rw [hg];exact Nat.ne_of_gt (blk_lt (g := gb219) (o := .cells #[.bool true,.string (⟨#[49,50,53]⟩ : ByteArray),.int .i64 (-4)] 23 (0,0)) (by (with_reducible repeat (first | refine blk_drewN ?_ _ | refine blk_drew ?_ | refine blk_alloc ?_ _));exact BK219.out)) : gb229 ≠ gb219));have n8_ := Aside0.mk ((by rw [hg];exact Nat.ne_of_lt (blk_lt (g := gb224) (o := .cells #[.bool false,.string (⟨#[53]⟩ : ByteArray),.int .i64 (-1)] 23 (0,0)) (by (with_reducible repeat (first | refine blk_drewN ?_ _ | refine blk_drew ?_ | refine blk_alloc ?_ _));exact BK224.out)) : gb224 ≠ gb229));have n9_ := Aside0.mk ((by rw [hg];exact Nat.ne_of_gt (blk_lt (g := gb224) (o := .cells #[.bool false,.string (⟨#[53]⟩ : ByteArray),.int .i64 (-1)] 23 (0,0)) (by (with_reducible repeat (first | refine blk_drewN ?_ _ | refine blk_drew ?_ | refine blk_alloc ?_ _));exact BK224.out)) : gb229 ≠ gb224));clear BK219;clear BK224;clear HB;have BK219 := n0_;have BK224 := n1_;have HB := n2_;have BK229 := n3_;have GW229 := n4_;have GE229 := n5_;have NB219_229 := n6_;have NB229_219 := n7_;have NB224_229 := n8_;have NB229_224 := n9_;clear n0_ n1_ n2_ n3_ n4_ n5_ n6_ n7_ n8_ n9_;clear hb hbox hg;have hnb141 := NB229_219.out;have hnc141 := NB219_229.out;have hnb142 := NB229_224.out;have hnc142 := NB224_229.out;have hcz143_0 : w140.cell? ⟨gb229,0,none⟩ = some (.bool false) := (blk_cell BK229.out 0).trans rfl;have hcz143_1 : w140.cell? ⟨gb229,1,none⟩ = some (.string (⟨#[]⟩ : ByteArray)) := (blk_cell BK229.out 1).trans rfl;have hcz143_2 : w140.cell? ⟨gb229,2,none⟩ = some (.int .i64 0) := (blk_cell BK229.out 2).trans rfl;have hfz143_0 := blk_frozen BK229.out 0;have hfz143_1 := blk_frozen BK229.out 1;have hfz143_2 := blk_frozen BK229.out 2) | ((with_reducible refine gate_callee (f := 16) rfl ?_);refine goesL_ (some 199) rfl rfl Tryz.func16 (by kernel_rfl) rfl #[.string (⟨#[46]⟩ : ByteArray)] rfl (by (try simp only [List.map_toArray,List.map_cons,List.map_nil]);first | done | rfl | (simp only [List.length_drop,List.length_take];rfl)) ?_;(with_reducible refine (decimal_Parse.calls k (⟨#[46]⟩ : ByteArray) false (⟨#[]⟩ : ByteArray) 0 3 _ A34.out).mono ?_);rintro e w144 ⟨rfl,hb⟩;refine ⟨_,rfl,?_⟩;have n0_ := Aside0.mk (blk_below (g := gb219) (o := .cells #[.bool true,.string (⟨#[49,50,53]⟩ : ByteArray),.int .i64 (-4)] 23 (0,0)) (by (with_reducible repeat (first | refine blk_drewN ?_ _ | refine blk_drew ?_ | refine blk_alloc ?_ _));refine blk_far ?_ NB219_229.out _;(with_reducible repeat (first | refine blk_drewN ?_ _ | refine blk_drew ?_ | refine blk_alloc ?_ _));refine blk_far ?_ NB219_229.out _;(with_reducible repeat (first | refine blk_drewN ?_ _ | refine blk_drew ?_ | refine blk_alloc ?_ _));refine blk_far ?_ NB219_229.out _;(with_reducible repeat (first | refine blk_drewN ?_ _ | refine blk_drew ?_ | refine blk_alloc ?_ _));exact BK219.out) hb);have n1_ := Aside0.mk (blk_below (g := gb224) (o := .cells #[.bool false,.string (⟨#[53]⟩ : ByteArray),.int .i64 (-1)] 23 (0,0)) (by (with_reducible repeat (first | refine blk_drewN ?_ _ | refine blk_drew ?_ | refine blk_alloc ?_ _));refine blk_far ?_ NB224_229.out _;(with_reducible repeat (first | refine blk_drewN ?_ _ | refine blk_drew ?_ | refine blk_alloc ?_ _));refine blk_far ?_ NB224_229.out _;(with_reducible repeat (first | refine blk_drewN ?_ _ | refine blk_drew ?_ | refine blk_alloc ?_ _));refine blk_far ?_ NB224_229.out _;(with_reducible repeat (first | refine blk_drewN ?_ _ | refine blk_drew ?_ | refine blk_alloc ?_ _));exact BK224.out) hb);have n2_ := Aside0.mk (blk_below (g := gb229) (o := .cells #[.bool false,.string (⟨#[53]⟩ : ByteArray),.int .i64 0] 23 (0,0)) (by (with_reducible repeat (first | refine blk_drewN ?_ _ | refine blk_drew ?_ | refine blk_alloc ?_ _));refine blk_put (cs := #[.bool false,.string (⟨#[53]⟩ : ByteArray),.int .i64 0]) ?_ 2 _ rfl;(with_reducible repeat (first | refine blk_drewN ?_ _ | refine blk_drew ?_ | refine blk_alloc ?_ _));refine blk_put (cs := #[.bool false,.string (⟨#[]⟩ : ByteArray),.int .i64 0]) ?_ 1 _ rfl;(with_reducible repeat (first | refine blk_drewN ?_ _ | refine blk_drew ?_ | refine blk_alloc ?_ _));refine blk_put (cs := #[.bool false,.string (⟨#[]⟩ : ByteArray),.int .i64 0]) ?_ 0 _ rfl;(with_reducible repeat (first | refine blk_drewN ?_ _ | refine blk_drew ?_ | refine blk_alloc ?_ _));exact BK229.out) hb);have n3_ := Aside0.mk (below_step (by repeat (first | (with_reducible first | exact HB.out | apply below_alloc | apply pw_below_drewN | apply below_drew1 | refine below_set ?_ GE219.out | refine below_set ?_ GE224.out | refine below_set ?_ GE229.out) | exact HB.out)) hb);clear BK219;clear BK224;clear BK229;clear HB;have BK219 := n0_;have BK224 := n1_;have BK229 := n2_;have HB := n3_;clear n0_ n1_ n2_ n3_;(try clear hb);(try clear hb2);(try clear hk);(try clear hi)) | ((with_reducible refine gate_dst (N := 31) rfl ?_);refine box_event ?hg (N := 31) ?hd (cs := #[.bool false,.string (⟨#[]⟩ : ByteArray),.int .i64 0]) (t := 23) ?hr ?_;(case hd => rfl);(case hg => rfl);(case hr => first | (go_simp;done) | (go_simp;rfl));intro gb234 hg w145 hbox hb;have n0_ := Aside0.mk (blk_below (g := gb219) (o := .cells #[.bool true,.string (⟨#[49,50,53]⟩ : ByteArray),.int .i64 (-4)] 23 (0,0)) (by (with_reducible repeat (first | refine blk_drewN ?_ _ | refine blk_drew ?_ | refine blk_alloc ?_ _));exact BK219.out) hb);have n1_ := Aside0.mk (blk_below (g := gb224) (o := .cells #[.bool false,.string (⟨#[53]⟩ : ByteArray),.int .i64 (-1)] 23 (0,0)) (by (with_reducible repeat (first | refine blk_drewN ?_ _ | refine blk_drew ?_ | refine blk_alloc ?_ _));exact BK224.out) hb);have n2_ := Aside0.mk (blk_below (g := gb229) (o := .cells #[.bool false,.string (⟨#[53]⟩ : ByteArray),.int .i64 0] 23 (0,0)) (by (with_reducible repeat (first | refine blk_drewN ?_ _ | refine blk_drew ?_ | refine blk_alloc ?_ _));exact BK229.out) hb);have n3_ := Aside0.mk (below_step (by repeat (first | (with_reducible first | exact HB.out | apply below_alloc | apply pw_below_drewN | apply below_drew1 | refine below_set ?_ GE219.out | refine below_set ?_ GE224.out | refine below_set ?_ GE229.out) | exact HB.out)) hb);have n4_ := Aside0.mk (hbox);have n5_ := Aside0.mk ((by rw [hg];exact (below_size (by repeat (first | (with_reducible first | exact HB.out | apply below_alloc | apply pw_below_drewN | apply below_drew1 | refine below_set ?_ GE219.out | refine below_set ?_ GE224.out | refine below_set ?_ GE229.out) | exact HB.out))) : w.heap.size ≤ gb234));have n6_ := Aside0.mk ((by rw [hg];exact (below_size (by repeat (first | (with_reducible first | exact HB.out | apply below_alloc | apply pw_below_drewN | apply below_drew1 | refine below_set ?_ GE219.out | refine below_set ?_ GE224.out | refine below_set ?_ GE229.out) | exact HB.out))) : w.heap.size ≤ gb234));have n7_ := Aside0.mk ((by rw [hg];exact Nat.ne_of_lt (blk_lt (g := gb219) (o := .cells #[.bool true,.string (⟨#[49,50,53]⟩ : ByteArray),.int .i64 (-4)] 23 (0,0)) (by (with_reducible repeat (first | refine blk_drewN ?_ _ | refine blk_drew ?_ | refine blk_alloc ?_ _));exact BK219.out)) : gb219 ≠ gb234));have n8_ := Aside0.mk ((by rw [hg];exact Nat.ne_of_gt (blk_lt (g := gb219) (o := .cells #[.bool true,.string (⟨#[49,50,53]⟩ : ByteArray),.int .i64 (-4)] 23 (0,0)) (by (with_reducible repeat (first | refine blk_drewN ?_ _ | refine blk_drew ?_ | refine blk_alloc ?_ _));exact BK219.out)) : gb234 ≠ gb219));have n9_ := Aside0.mk ((by rw [hg];exact Nat.ne_of_lt (blk_lt (g := gb224) (o := .cells #[.bool false,.string (⟨#[53]⟩ : ByteArray),.int .i64 (-1)] 23 (0,0)) (by (with_reducible repeat (first | refine blk_drewN ?_ _ | refine blk_drew ?_ | refine blk_alloc ?_ _));exact BK224.out)) : gb224 ≠ gb234));have n10_ := Aside0.mk ((by rw [hg];exact Nat.ne_of_gt (blk_lt (g := gb224) (o := .cells #[.bool false,.string (⟨#[53]⟩ : ByteArray),.int .i64 (-1)] 23 (0,0)) (by (with_reducible repeat (first | refine blk_drewN ?_ _ | refine blk_drew ?_ | refine blk_alloc ?_ _));exact BK224.out)) : gb234 ≠ gb224));have n11_ := Aside0.mk ((by rw [hg];exact Nat.ne_of_lt (blk_lt (g := gb229) (o := .cells #[.bool false,.string (⟨#[53]⟩ : ByteArray),.int .i64 0] 23 (0,0)) (by (with_reducible repeat (first | refine blk_drewN ?_ _ | refine blk_drew ?_ | refine blk_alloc ?_ _));exact BK229.out)) : gb229 ≠ gb234));have n12_ := Aside0.mk ((by rw [hg];exact Nat.ne_of_gt (blk_lt (g := gb229) (o := .cells #[.bool false,.string (⟨#[53]⟩ : ByteArray),.int .i64 0] 23 (0,0)) (by (with_reducible repeat (first | refine blk_drewN ?_ _ | refine blk_drew ?_ | refine blk_alloc ?_ _));exact BK229.out)) : gb234 ≠ gb229));clear BK219;clear BK224;clear BK229;clear HB;have BK219 := n0_;have BK224 := n1_;have BK229 := n2_;have HB := n3_;have BK234 := n4_;have GW234 := n5_;have GE234 := n6_;have NB219_234 := n7_;have NB234_219 := n8_;have NB224_234 := n9_;have NB234_224 := n10_;have NB229_234 := n11_;have NB234_229 := n12_;clear n0_ n1_ n2_ n3_ n4_ n5_ n6_ n7_ n8_ n9_ n10_ n11_ n12_;clear hb hbox hg;have hnb146 := NB234_219.out;have hnc146 := NB219_234.out;have hnb147 := NB234_224.out;have hnc147 := NB224_234.out;have hnb148 := NB234_229.out;have hnc148 := NB229_234.out;have hcz149_0 : w145.cell? ⟨gb234,0,none⟩ = some (.bool false) := (blk_cell BK234.out 0).trans rfl;have hcz149_1 : w145.cell? ⟨gb234,1,none⟩ = some (.string (⟨#[]⟩ : ByteArray)) := (blk_cell BK234.out 1).trans rfl;have hcz149_2 : w145.cell? ⟨gb234,2,none⟩ = some (.int .i64 0) := (blk_cell BK234.out 2).trans rfl;have hfz149_0 := blk_frozen BK234.out 0;have hfz149_1 := blk_frozen BK234.out 1;have hfz149_2 := blk_frozen BK234.out 2) | ((with_reducible refine gate_callee (f := 16) rfl ?_);refine goesL_ (some 203) rfl rfl Tryz.func16 (by kernel_rfl) rfl #[.string (⟨#[49,101]⟩ : ByteArray)] rfl (by (try simp only [List.map_toArray,List.map_cons,List.map_nil]);first | done | rfl | (simp only [List.length_drop,List.length_take];rfl)) ?_;(with_reducible refine (decimal_Parse.calls k (⟨#[49,101]⟩ : ByteArray) false (⟨#[]⟩ : ByteArray) 0 3 _ A35.out).mono ?_);rintro e w150 ⟨rfl,hb⟩;refine ⟨_,rfl,?_⟩;have n0_ := Aside0.mk (blk_below (g := gb219) (o := .cells #[.bool true,.string (⟨#[49,50,53]⟩ : ByteArray),.int .i64 (-4)] 23 (0,0)) (by (with_reducible repeat (first | refine blk_drewN ?_ _ | refine blk_drew ?_ | refine blk_alloc ?_ _));refine blk_far ?_ NB219_234.out _;(with_reducible repeat (first | refine blk_drewN ?_ _ | refine blk_drew ?_ | refine blk_alloc ?_ _));refine blk_far ?_ NB219_234.out _;(with_reducible repeat (first | refine blk_drewN ?_ _ | refine blk_drew ?_ | refine blk_alloc ?_ _));refine blk_far ?_ NB219_234.out _;(with_reducible repeat (first | refine blk_drewN ?_ _ | refine blk_drew ?_ | refine blk_alloc ?_ _));exact BK219.out) hb);have n1_ := Aside0.mk (blk_below (g := gb224) (o := .cells #[.bool false,.string (⟨#[53]⟩ : ByteArray),.int .i64 (-1)] 23 (0,0)) (by (with_reducible repeat (first | refine blk_drewN ?_ _ | refine blk_drew ?_ | refine blk_alloc ?_ _));refine blk_far ?_ NB224_234.out _;(with_reducible repeat (first | refine blk_drewN ?_ _ | refine blk_drew ?_ | refine blk_alloc ?_ _));refine blk_far ?_ NB224_234.out _;(with_reducible repeat (first | refine blk_drewN ?_ _ | refine blk_drew ?_ | refine blk_alloc ?_ _));refine blk_far ?_ NB224_234.out _;(with_reducible repeat (first | refine blk_drewN ?_ _ | refine blk_drew ?_ | refine blk_alloc ?_ _));exact BK224.out) hb);have n2_ := Aside0.mk (blk_below (g := gb229) (o := .cells #[.bool false,.string (⟨#[53]⟩ : ByteArray),.int .i64 0] 23 (0,0)) (by (with_reducible repeat (first | refine blk_drewN ?_ _ | refine blk_drew ?_ | refine blk_alloc ?_ _));refine blk_far ?_ NB229_234.out _;(with_reducible repeat (first | refine blk_drewN ?_ _ | refine blk_drew ?_ | refine blk_alloc ?_ _));refine blk_far ?_ NB229_234.out _;(with_reducible repeat (first | refine blk_drewN ?_ _ | refine blk_drew ?_ | refine blk_alloc ?_ _));refine blk_far ?_ NB229_234.out _;(with_reducible repeat (first | refine blk_drewN ?_ _ | refine blk_drew ?_ | refine blk_alloc ?_ _));exact BK229.out) hb);have n3_ := Aside0.mk (blk_below (g := gb234) (o := .cells #[.bool false,.string (⟨#[]⟩ : ByteArray),.int .i64 0] 23 (0,0)) (by (with_reducible repeat (first | refine blk_drewN ?_ _ | refine blk_drew ?_ | refine blk_alloc ?_ _));refine blk_put (cs := #[.bool false,.string (⟨#[]⟩ : ByteArray),.int .i64 0]) ?_ 2 _ rfl;(with_reducible repeat (first | refine blk_drewN ?_ _ | refine blk_drew ?_ | refine blk_alloc ?_ _));refine blk_put (cs := #[.bool false,.string (⟨#[]⟩ : ByteArray),.int .i64 0]) ?_ 1 _ rfl;(with_reducible repeat (first | refine blk_drewN ?_ _ | refine blk_drew ?_ | refine blk_alloc ?_ _));refine blk_put (cs := #[.bool false,.string (⟨#[]⟩ : ByteArray),.int .i64 0]) ?_ 0 _ rfl;(with_reducible repeat (first | refine blk_drewN ?_ _ | refine blk_drew ?_ | refine blk_alloc ?_ _));exact BK234.out) hb);have n4_ := Aside0.mk (below_step (by repeat (first | (with_reducible first | exact HB.out | apply below_alloc | apply pw_below_drewN | apply below_drew1 | refine below_set ?_ GE219.out | refine below_set ?_ GE224.out | refine below_set ?_ GE229.out | refine below_set ?_ GE234.out) | exact HB.out)) hb);clear BK219;clear BK224;clear BK229;clear BK234;clear HB;have BK219 := n0_;have BK224 := n1_;have BK229 := n2_;have BK234 := n3_;have HB := n4_;clear n0_ n1_ n2_ n3_ n4_;(try clear hb);(try clear hb2);(try clear hk);(try clear hi)) | ((with_reducible refine gate_dst (N := 33) rfl ?_);refine box_event ?hg (N := 33) ?hd (cs := #[.bool false,.string (⟨#[]⟩ : ByteArray),.int .i64 0]) (t := 23) ?hr ?_;(case hd => rfl);(case hg => rfl);(case hr => first | (go_simp;done) | (go_simp;rfl));intro gb239 hg w151 hbox hb;have n0_ := Aside0.mk (blk_below (g := gb219) (o := .cells #[.bool true,.string (⟨#[49,50,53]⟩ : ByteArray),.int .i64 (-4)] 23 (0,0)) (by (with_reducible repeat (first | refine blk_drewN ?_ _ | refine blk_drew ?_ | refine blk_alloc ?_ _));exact BK219.out) hb);have n1_ := Aside0.mk (blk_below (g := gb224) (o := .cells #[.bool false,.string (⟨#[53]⟩ : ByteArray),.int .i64 (-1)] 23 (0,0)) (by (with_reducible repeat (first | refine blk_drewN ?_ _ | refine blk_drew ?_ | refine blk_alloc ?_ _));exact BK224.out) hb);have n2_ := Aside0.mk (blk_below (g := gb229) (o := .cells #[.bool false,.string (⟨#[53]⟩ : ByteArray),.int .i64 0] 23 (0,0)) (by (with_reducible repeat (first | refine blk_drewN ?_ _ | refine blk_drew ?_ | refine blk_alloc ?_ _));exact BK229.out) hb);have n3_ := Aside0.mk (blk_below (g := gb234) (o := .cells #[.bool false,.string (⟨#[]⟩ : ByteArray),.int .i64 0] 23 (0,0)) (by (with_reducible repeat (first | refine blk_drewN ?_ _ | refine blk_drew ?_ | refine blk_alloc ?_ _));exact BK234.out) hb);have n4_ := Aside0.mk (below_step (by repeat (first | (with_reducible first | exact HB.out | apply below_alloc | apply pw_below_drewN | apply below_drew1 | refine below_set ?_ GE219.out | refine below_set ?_ GE224.out | refine below_set ?_ GE229.out | refine below_set ?_ GE234.out) | exact HB.out)) hb);have n5_ := Aside0.mk (hbox);have n6_ := Aside0.mk ((by rw [hg];exact (below_size (by repeat (first | (with_reducible first | exact HB.out | apply below_alloc | apply pw_below_drewN | apply below_drew1 | refine below_set ?_ GE219.out | refine below_set ?_ GE224.out | refine below_set ?_ GE229.out | refine below_set ?_ GE234.out) | exact HB.out))) : w.heap.size ≤ gb239));have n7_ := Aside0.mk ((by rw [hg];exact (below_size (by repeat (first | (with_reducible first | exact HB.out | apply below_alloc | apply pw_below_drewN | apply below_drew1 | refine below_set ?_ GE219.out | refine below_set ?_ GE224.out | refine below_set ?_ GE229.out | refine below_set ?_ GE234.out) | exact HB.out))) : w.heap.size ≤ gb239));have n8_ := Aside0.mk ((by rw [hg];exact Nat.ne_of_lt (blk_lt (g := gb219) (o := .cells #[.bool true,.string (⟨#[49,50,53]⟩ : ByteArray),.int .i64 (-4)] 23 (0,0)) (by (with_reducible repeat (first | refine blk_drewN ?_ _ | refine blk_drew ?_ | refine blk_alloc ?_ _));exact BK219.out)) : gb219 ≠ gb239));have n9_ := Aside0.mk ((by rw [hg];exact Nat.ne_of_gt (blk_lt (g := gb219) (o := .cells #[.bool true,.string (⟨#[49,50,53]⟩ : ByteArray),.int .i64 (-4)] 23 (0,0)) (by (with_reducible repeat (first | refine blk_drewN ?_ _ | refine blk_drew ?_ | refine blk_alloc ?_ _));exact BK219.out)) : gb239 ≠ gb219));have n10_ := Aside0.mk ((by rw [hg];exact Nat.ne_of_lt (blk_lt (g := gb224) (o := .cells #[.bool false,.string (⟨#[53]⟩ : ByteArray),.int .i64 (-1)] 23 (0,0)) (by (with_reducible repeat (first | refine blk_drewN ?_ _ | refine blk_drew ?_ | refine blk_alloc ?_ _));exact BK224.out)) : gb224 ≠ gb239));have n11_ := Aside0.mk ((by rw [hg];exact Nat.ne_of_gt (blk_lt (g := gb224) (o := .cells #[.bool false,.string (⟨#[53]⟩ : ByteArray),.int .i64 (-1)] 23 (0,0)) (by (with_reducible repeat (first | refine blk_drewN ?_ _ | refine blk_drew ?_ | refine blk_alloc ?_ _));exact BK224.out)) : gb239 ≠ gb224));have n12_ := Aside0.mk ((by rw [hg];exact Nat.ne_of_lt (blk_lt (g := gb229) (o := .cells #[.bool false,.string (⟨#[53]⟩ : ByteArray),.int .i64 0] 23 (0,0)) (by (with_reducible repeat (first | refine blk_drewN ?_ _ | refine blk_drew ?_ | refine blk_alloc ?_ _));exact BK229.out)) : gb229 ≠ gb239));have n13_ := Aside0.mk ((by rw [hg];exact Nat.ne_of_gt (blk_lt (g := gb229) (o := .cells #[.bool false,.string (⟨#[53]⟩ : ByteArray),.int .i64 0] 23 (0,0)) (by (with_reducible repeat (first | refine blk_drewN ?_ _ | refine blk_drew ?_ | refine blk_alloc ?_ _));exact BK229.out)) : gb239 ≠ gb229));have n14_ := Aside0.mk ((by rw [hg];exact Nat.ne_of_lt (blk_lt (g := gb234) (o := .cells #[.bool false,.string (⟨#[]⟩ : ByteArray),.int .i64 0] 23 (0,0)) (by (with_reducible repeat (first | refine blk_drewN ?_ _ | refine blk_drew ?_ | refine blk_alloc ?_ _));exact BK234.out)) : gb234 ≠ gb239));have n15_ := Aside0.mk ((by rw [hg];exact Nat.ne_of_gt (blk_lt (g := gb234) (o := .cells #[.bool false,.string (⟨#[]⟩ : ByteArray),.int .i64 0] 23 (0,0)) (by (with_reducible repeat (first | refine blk_drewN ?_ _ | refine blk_drew ?_ | refine blk_alloc ?_ _));exact BK234.out)) : gb239 ≠ gb234));clear BK219;clear BK224;clear BK229;clear BK234;clear HB;have BK219 := n0_;have BK224 := n1_;have BK229 := n2_;have BK234 := n3_;have HB := n4_;have BK239 := n5_;have GW239 := n6_;have GE239 := n7_;have NB219_239 := n8_;have NB239_219 := n9_;have NB224_239 := n10_;have NB239_224 := n11_;have NB229_239 := n12_;have NB239_229 := n13_;have NB234_239 := n14_;have NB239_234 := n15_;clear n0_ n1_ n2_ n3_ n4_ n5_ n6_ n7_ n8_ n9_ n10_ n11_ n12_ n13_ n14_ n15_;clear hb hbox hg;have hnb152 := NB239_219.out;have hnc152 := NB219_239.out;have hnb153 := NB239_224.out;have hnc153 := NB224_239.out;have hnb154 := NB239_229.out;have hnc154 := NB229_239.out;have hnb155 := NB239_234.out;have hnc155 := NB234_239.out;have hcz156_0 : w151.cell? ⟨gb239,0,none⟩ = some (.bool false) := (blk_cell BK239.out 0).trans rfl;have hcz156_1 : w151.cell? ⟨gb239,1,none⟩ = some (.string (⟨#[]⟩ : ByteArray)) := (blk_cell BK239.out 1).trans rfl;have hcz156_2 : w151.cell? ⟨gb239,2,none⟩ = some (.int .i64 0) := (blk_cell BK239.out 2).trans rfl;have hfz156_0 := blk_frozen BK239.out 0;have hfz156_1 := blk_frozen BK239.out 1;have hfz156_2 := blk_frozen BK239.out 2) | ((with_reducible refine gate_callee (f := 16) rfl ?_);refine goesL_ (some 207) rfl rfl Tryz.func16 (by kernel_rfl) rfl #[.string (⟨#[43,49]⟩ : ByteArray)] rfl (by (try simp only [List.map_toArray,List.map_cons,List.map_nil]);first | done | rfl | (simp only [List.length_drop,List.length_take];rfl)) ?_;(with_reducible refine (decimal_Parse.calls k (⟨#[43,49]⟩ : ByteArray) false (⟨#[]⟩ : ByteArray) 0 3 _ A36.out).mono ?_);rintro e w157 ⟨rfl,hb⟩;refine ⟨_,rfl,?_⟩;have n0_ := Aside0.mk (blk_below (g := gb219) (o := .cells #[.bool true,.string (⟨#[49,50,53]⟩ : ByteArray),.int .i64 (-4)] 23 (0,0)) (by (with_reducible repeat (first | refine blk_drewN ?_ _ | refine blk_drew ?_ | refine blk_alloc ?_ _));refine blk_far ?_ NB219_239.out _;(with_reducible repeat (first | refine blk_drewN ?_ _ | refine blk_drew ?_ | refine blk_alloc ?_ _));refine blk_far ?_ NB219_239.out _;(with_reducible repeat (first | refine blk_drewN ?_ _ | refine blk_drew ?_ | refine blk_alloc ?_ _));refine blk_far ?_ NB219_239.out _;(with_reducible repeat (first | refine blk_drewN ?_ _ | refine blk_drew ?_ | refine blk_alloc ?_ _));exact BK219.out) hb);have n1_ := Aside0.mk (blk_below (g := gb224) (o := .cells #[.bool false,.string (⟨#[53]⟩ : ByteArray),.int .i64 (-1)] 23 (0,0)) (by (with_reducible repeat (first | refine blk_drewN ?_ _ | refine blk_drew ?_ | refine blk_alloc ?_ _));refine blk_far ?_ NB224_239.out _;(with_reducible repeat (first | refine blk_drewN ?_ _ | refine blk_drew ?_ | refine blk_alloc ?_ _));refine blk_far ?_ NB224_239.out _;(with_reducible repeat (first | refine blk_drewN ?_ _ | refine blk_drew ?_ | refine blk_alloc ?_ _));refine blk_far ?_ NB224_239.out _;(with_reducible repeat (first | refine blk_drewN ?_ _ | refine blk_drew ?_ | refine blk_alloc ?_ _));exact BK224.out) hb);have n2_ := Aside0.mk (blk_below (g := gb229) (o := .cells #[.bool false,.string (⟨#[53]⟩ : ByteArray),.int .i64 0] 23 (0,0)) (by (with_reducible repeat (first | refine blk_drewN ?_ _ | refine blk_drew ?_ | refine blk_alloc ?_ _));refine blk_far ?_ NB229_239.out _;(with_reducible repeat (first | refine blk_drewN ?_ _ | refine blk_drew ?_ | refine blk_alloc ?_ _));refine blk_far ?_ NB229_239.out _;(with_reducible repeat (first | refine blk_drewN ?_ _ | refine blk_drew ?_ | refine blk_alloc ?_ _));refine blk_far ?_ NB229_239.out _;(with_reducible repeat (first | refine blk_drewN ?_ _ | refine blk_drew ?_ | refine blk_alloc ?_ _));exact BK229.out) hb);have n3_ := Aside0.mk (blk_below (g := gb234) (o := .cells #[.bool false,.string (⟨#[]⟩ : ByteArray),.int .i64 0] 23 (0,0)) (by (with_reducible repeat (first | refine blk_drewN ?_ _ | refine blk_drew ?_ | refine blk_alloc ?_ _));refine blk_far ?_ NB234_239.out _;(with_reducible repeat (first | refine blk_drewN ?_ _ | refine blk_drew ?_ | refine blk_alloc ?_ _));refine blk_far ?_ NB234_239.out _;(with_reducible repeat (first | refine blk_drewN ?_ _ | refine blk_drew ?_ | refine blk_alloc ?_ _));refine blk_far ?_ NB234_239.out _;(with_reducible repeat (first | refine blk_drewN ?_ _ | refine blk_drew ?_ | refine blk_alloc ?_ _));exact BK234.out) hb);have n4_ := Aside0.mk (blk_below (g := gb239) (o := .cells #[.bool false,.string (⟨#[]⟩ : ByteArray),.int .i64 0] 23 (0,0)) (by (with_reducible repeat (first | refine blk_drewN ?_ _ | refine blk_drew ?_ | refine blk_alloc ?_ _));refine blk_put (cs := #[.bool false,.string (⟨#[]⟩ : ByteArray),.int .i64 0]) ?_ 2 _ rfl;(with_reducible repeat (first | refine blk_drewN ?_ _ | refine blk_drew ?_ | refine blk_alloc ?_ _));refine blk_put (cs := #[.bool false,.string (⟨#[]⟩ : ByteArray),.int .i64 0]) ?_ 1 _ rfl;(with_reducible repeat (first | refine blk_drewN ?_ _ | refine blk_drew ?_ | refine blk_alloc ?_ _));refine blk_put (cs := #[.bool false,.string (⟨#[]⟩ : ByteArray),.int .i64 0]) ?_ 0 _ rfl;(with_reducible repeat (first | refine blk_drewN ?_ _ | refine blk_drew ?_ | refine blk_alloc ?_ _));exact BK239.out) hb);have n5_ := Aside0.mk (below_step (by repeat (first | (with_reducible first | exact HB.out | apply below_alloc | apply pw_below_drewN | apply below_drew1 | refine below_set ?_ GE219.out | refine below_set ?_ GE224.out | refine below_set ?_ GE229.out | refine below_set ?_ GE234.out | refine below_set ?_ GE239.out) | exact HB.out)) hb);clear BK219;clear BK224;clear BK229;clear BK234;clear BK239;clear HB;have BK219 := n0_;have BK224 := n1_;have BK229 := n2_;have BK234 := n3_;have BK239 := n4_;have HB := n5_;clear n0_ n1_ n2_ n3_ n4_ n5_;(try clear hb);(try clear hb2);(try clear hk);(try clear hi)) | ((with_reducible refine gate_dst (N := 35) rfl ?_);refine box_event ?hg (N := 35) ?hd (cs := #[.bool false,.string (⟨#[]⟩ : ByteArray),.int .i64 0]) (t := 23) ?hr ?_;(case hd => rfl);(case hg => rfl);(case hr => first | (go_simp;done) | (go_simp;rfl));intro gb244 hg w158 hbox hb;have n0_ := Aside0.mk (blk_below (g := gb219) (o := .cells #[.bool true,.string (⟨#[49,50,53]⟩ : ByteArray),.int .i64 (-4)] 23 (0,0)) (by (with_reducible repeat (first | refine blk_drewN ?_ _ | refine blk_drew ?_ | refine blk_alloc ?_ _));exact BK219.out) hb);have n1_ := Aside0.mk (blk_below (g := gb224) (o := .cells #[.bool false,.string (⟨#[53]⟩ : ByteArray),.int .i64 (-1)] 23 (0,0)) (by (with_reducible repeat (first | refine blk_drewN ?_ _ | refine blk_drew ?_ | refine blk_alloc ?_ _));exact BK224.out) hb);have n2_ := Aside0.mk (blk_below (g := gb229) (o := .cells #[.bool false,.string (⟨#[53]⟩ : ByteArray),.int .i64 0] 23 (0,0)) (by (with_reducible repeat (first | refine blk_drewN ?_ _ | refine blk_drew ?_ | refine blk_alloc ?_ _));exact BK229.out) hb);have n3_ := Aside0.mk (blk_below (g := gb234) (o := .cells #[.bool false,.string (⟨#[]⟩ : ByteArray),.int .i64 0] 23 (0,0)) (by (with_reducible repeat (first | refine blk_drewN ?_ _ | refine blk_drew ?_ | refine blk_alloc ?_ _));exact BK234.out) hb);have n4_ := Aside0.mk (blk_below (g := gb239) (o := .cells #[.bool false,.string (⟨#[]⟩ : ByteArray),.int .i64 0] 23 (0,0)) (by (with_reducible repeat (first | refine blk_drewN ?_ _ | refine blk_drew ?_ | refine blk_alloc ?_ _));exact BK239.out) hb);have n5_ := Aside0.mk (below_step (by repeat (first | (with_reducible first | exact HB.out | apply below_alloc | apply pw_below_drewN | apply below_drew1 | refine below_set ?_ GE219.out | refine below_set ?_ GE224.out | refine below_set ?_ GE229.out | refine below_set ?_ GE234.out | refine below_set ?_ GE239.out) | exact HB.out)) hb);have n6_ := Aside0.mk (hbox);have n7_ := Aside0.mk ((by rw [hg];exact (below_size (by repeat (first | (with_reducible first | exact HB.out | apply below_alloc | apply pw_below_drewN | apply below_drew1 | refine below_set ?_ GE219.out | refine below_set ?_ GE224.out | refine below_set ?_ GE229.out | refine below_set ?_ GE234.out | refine below_set ?_ GE239.out) | exact HB.out))) : w.heap.size ≤ gb244));have n8_ := Aside0.mk ((by rw [hg];exact (below_size (by repeat (first | (with_reducible first | exact HB.out | apply below_alloc | apply pw_below_drewN | apply below_drew1 | refine below_set ?_ GE219.out | refine below_set ?_ GE224.out | refine below_set ?_ GE229.out | refine below_set ?_ GE234.out | refine below_set ?_ GE239.out) | exact HB.out))) : w.heap.size ≤ gb244));have n9_ := Aside0.mk ((by rw [hg];exact Nat.ne_of_lt (blk_lt (g := gb219) (o := .cells #[.bool true,.string (⟨#[49,50,53]⟩ : ByteArray),.int .i64 (-4)] 23 (0,0)) (by (with_reducible repeat (first | refine blk_drewN ?_ _ | refine blk_drew ?_ | refine blk_alloc ?_ _));exact BK219.out)) : gb219 ≠ gb244));have n10_ := Aside0.mk ((by rw [hg];exact Nat.ne_of_gt (blk_lt (g := gb219) (o := .cells #[.bool true,.string (⟨#[49,50,53]⟩ : ByteArray),.int .i64 (-4)] 23 (0,0)) (by (with_reducible repeat (first | refine blk_drewN ?_ _ | refine blk_drew ?_ | refine blk_alloc ?_ _));exact BK219.out)) : gb244 ≠ gb219));have n11_ := Aside0.mk ((by rw [hg];exact Nat.ne_of_lt (blk_lt (g := gb224) (o := .cells #[.bool false,.string (⟨#[53]⟩ : ByteArray),.int .i64 (-1)] 23 (0,0)) (by (with_reducible repeat (first | refine blk_drewN ?_ _ | refine blk_drew ?_ | refine blk_alloc ?_ _));exact BK224.out)) : gb224 ≠ gb244));have n12_ := Aside0.mk ((by rw [hg];exact Nat.ne_of_gt (blk_lt (g := gb224) (o := .cells #[.bool false,.string (⟨#[53]⟩ : ByteArray),.int .i64 (-1)] 23 (0,0)) (by (with_reducible repeat (first | refine blk_drewN ?_ _ | refine blk_drew ?_ | refine blk_alloc ?_ _));exact BK224.out)) : gb244 ≠ gb224));have n13_ := Aside0.mk ((by rw [hg];exact Nat.ne_of_lt (blk_lt (g := gb229) (o := .cells #[.bool false,.string (⟨#[53]⟩ : ByteArray),.int .i64 0] 23 (0,0)) (by (with_reducible repeat (first | refine blk_drewN ?_ _ | refine blk_drew ?_ | refine blk_alloc ?_ _));exact BK229.out)) : gb229 ≠ gb244));have n14_ := Aside0.mk ((by rw [hg];exact Nat.ne_of_gt (blk_lt (g := gb229) (o := .cells #[.bool false,.string (⟨#[53]⟩ : ByteArray),.int .i64 0] 23 (0,0)) (by (with_reducible repeat (first | refine blk_drewN ?_ _ | refine blk_drew ?_ | refine blk_alloc ?_ _));exact BK229.out)) : gb244 ≠ gb229));have n15_ := Aside0.mk ((by rw [hg];exact Nat.ne_of_lt (blk_lt (g := gb234) (o := .cells #[.bool false,.string (⟨#[]⟩ : ByteArray),.int .i64 0] 23 (0,0)) (by (with_reducible repeat (first | refine blk_drewN ?_ _ | refine blk_drew ?_ | refine blk_alloc ?_ _));exact BK234.out)) : gb234 ≠ gb244));have n16_ := Aside0.mk ((by rw [hg];exact Nat.ne_of_gt (blk_lt (g := gb234) (o := .cells #[.bool false,.string (⟨#[]⟩ : ByteArray),.int .i64 0] 23 (0,0)) (by (with_reducible repeat (first | refine blk_drewN ?_ _ | refine blk_drew ?_ | refine blk_alloc ?_ _));exact BK234.out)) : gb244 ≠ gb234));have n17_ := Aside0.mk ((by rw [hg];exact Nat.ne_of_lt (blk_lt (g := gb239) (o := .cells #[.bool false,.string (⟨#[]⟩ : ByteArray),.int .i64 0] 23 (0,0)) (by (with_reducible repeat (first | refine blk_drewN ?_ _ | refine blk_drew ?_ | refine blk_alloc ?_ _));exact BK239.out)) : gb239 ≠ gb244));have n18_ := Aside0.mk ((by rw [hg];exact Nat.ne_of_gt (blk_lt (g := gb239) (o := .cells #[.bool false,.string (⟨#[]⟩ : ByteArray),.int .i64 0] 23 (0,0)) (by (with_reducible repeat (first | refine blk_drewN ?_ _ | refine blk_drew ?_ | refine blk_alloc ?_ _));exact BK239.out)) : gb244 ≠ gb239));clear BK219;clear BK224;clear BK229;clear BK234;clear BK239;clear HB;have BK219 := n0_;have BK224 := n1_;have BK229 := n2_;have BK234 := n3_;have BK239 := n4_;have HB := n5_;have BK244 := n6_;have GW244 := n7_;have GE244 := n8_;have NB219_244 := n9_;have NB244_219 := n10_;have NB224_244 := n11_;have NB244_224 := n12_;have NB229_244 := n13_;have NB244_229 := n14_;have NB234_244 := n15_;have NB244_234 := n16_;have NB239_244 := n17_;have NB244_239 := n18_;clear n0_ n1_ n2_ n3_ n4_ n5_ n6_ n7_ n8_ n9_ n10_ n11_ n12_ n13_ n14_ n15_ n16_ n17_ n18_;clear hb hbox hg;have hnb159 := NB244_219.out;have hnc159 := NB219_244.out;have hnb160 := NB244_224.out;have hnc160 := NB224_244.out;have hnb161 := NB244_229.out;have hnc161 := NB229_244.out;have hnb162 := NB244_234.out;have hnc162 := NB234_244.out;have hnb163 := NB244_239.out;have hnc163 := NB239_244.out;have hcz164_0 : w158.cell? ⟨gb244,0,none⟩ = some (.bool false) := (blk_cell BK244.out 0).trans rfl;have hcz164_1 : w158.cell? ⟨gb244,1,none⟩ = some (.string (⟨#[]⟩ : ByteArray)) := (blk_cell BK244.out 1).trans rfl;have hcz164_2 : w158.cell? ⟨gb244,2,none⟩ = some (.int .i64 0) := (blk_cell BK244.out 2).trans rfl;have hfz164_0 := blk_frozen BK244.out 0;have hfz164_1 := blk_frozen BK244.out 1;have hfz164_2 := blk_frozen BK244.out 2))
 have n0_ : Aside0 ((((w158.setCell ⟨gb244,0,none⟩ (.bool false)).setCell ⟨gb244,1,none⟩ (.string (⟨#[]⟩ : ByteArray))).setCell ⟨gb244,2,none⟩ (.int .i64 0)).heap[gb219]? = some (.cells #[.bool true,.string (⟨#[49,50,53]⟩ : ByteArray),.int .i64 (-4)] 23 (0,0))) := ⟨by (with_reducible repeat (first | refine blk_drewN ?_ _ | refine blk_drew ?_ | refine blk_alloc ?_ _));refine blk_far ?_ NB219_244.out _;(with_reducible repeat (first | refine blk_drewN ?_ _ | refine blk_drew ?_ | refine blk_alloc ?_ _));refine blk_far ?_ NB219_244.out _;(with_reducible repeat (first | refine blk_drewN ?_ _ | refine blk_drew ?_ | refine blk_alloc ?_ _));refine blk_far ?_ NB219_244.out _;(with_reducible repeat (first | refine blk_drewN ?_ _ | refine blk_drew ?_ | refine blk_alloc ?_ _));exact BK219.out⟩
 have n1_ : Aside0 ((((w158.setCell ⟨gb244,0,none⟩ (.bool false)).setCell ⟨gb244,1,none⟩ (.string (⟨#[]⟩ : ByteArray))).setCell ⟨gb244,2,none⟩ (.int .i64 0)).heap[gb224]? = some (.cells #[.bool false,.string (⟨#[53]⟩ : ByteArray),.int .i64 (-1)] 23 (0,0))) := ⟨by (with_reducible repeat (first | refine blk_drewN ?_ _ | refine blk_drew ?_ | refine blk_alloc ?_ _));refine blk_far ?_ NB224_244.out _;(with_reducible repeat (first | refine blk_drewN ?_ _ | refine blk_drew ?_ | refine blk_alloc ?_ _));refine blk_far ?_ NB224_244.out _;(with_reducible repeat (first | refine blk_drewN ?_ _ | refine blk_drew ?_ | refine blk_alloc ?_ _));refine blk_far ?_ NB224_244.out _;(with_reducible repeat (first | refine blk_drewN ?_ _ | refine blk_drew ?_ | refine blk_alloc ?_ _));exact BK224.out⟩
 have n2_ : Aside0 ((((w158.setCell ⟨gb244,0,none⟩ (.bool false)).setCell ⟨gb244,1,none⟩ (.string (⟨#[]⟩ : ByteArray))).setCell ⟨gb244,2,none⟩ (.int .i64 0)).heap[gb229]? = some (.cells #[.bool false,.string (⟨#[53]⟩ : ByteArray),.int .i64 0] 23 (0,0))) := ⟨by (with_reducible repeat (first | refine blk_drewN ?_ _ | refine blk_drew ?_ | refine blk_alloc ?_ _));refine blk_far ?_ NB229_244.out _;(with_reducible repeat (first | refine blk_drewN ?_ _ | refine blk_drew ?_ | refine blk_alloc ?_ _));refine blk_far ?_ NB229_244.out _;(with_reducible repeat (first | refine blk_drewN ?_ _ | refine blk_drew ?_ | refine blk_alloc ?_ _));refine blk_far ?_ NB229_244.out _;(with_reducible repeat (first | refine blk_drewN ?_ _ | refine blk_drew ?_ | refine blk_alloc ?_ _));exact BK229.out⟩
 have n3_ : Aside0 ((((w158.setCell ⟨gb244,0,none⟩ (.bool false)).setCell ⟨gb244,1,none⟩ (.string (⟨#[]⟩ : ByteArray))).setCell ⟨gb244,2,none⟩ (.int .i64 0)).heap[gb234]? = some (.cells #[.bool false,.string (⟨#[]⟩ : ByteArray),.int .i64 0] 23 (0,0))) := ⟨by (with_reducible repeat (first | refine blk_drewN ?_ _ | refine blk_drew ?_ | refine blk_alloc ?_ _));refine blk_far ?_ NB234_244.out _;(with_reducible repeat (first | refine blk_drewN ?_ _ | refine blk_drew ?_ | refine blk_alloc ?_ _));refine blk_far ?_ NB234_244.out _;(with_reducible repeat (first | refine blk_drewN ?_ _ | refine blk_drew ?_ | refine blk_alloc ?_ _));refine blk_far ?_ NB234_244.out _;(with_reducible repeat (first | refine blk_drewN ?_ _ | refine blk_drew ?_ | refine blk_alloc ?_ _));exact BK234.out⟩
 have n4_ : Aside0 ((((w158.setCell ⟨gb244,0,none⟩ (.bool false)).setCell ⟨gb244,1,none⟩ (.string (⟨#[]⟩ : ByteArray))).setCell ⟨gb244,2,none⟩ (.int .i64 0)).heap[gb239]? = some (.cells #[.bool false,.string (⟨#[]⟩ : ByteArray),.int .i64 0] 23 (0,0))) := ⟨by (with_reducible repeat (first | refine blk_drewN ?_ _ | refine blk_drew ?_ | refine blk_alloc ?_ _));refine blk_far ?_ NB239_244.out _;(with_reducible repeat (first | refine blk_drewN ?_ _ | refine blk_drew ?_ | refine blk_alloc ?_ _));refine blk_far ?_ NB239_244.out _;(with_reducible repeat (first | refine blk_drewN ?_ _ | refine blk_drew ?_ | refine blk_alloc ?_ _));refine blk_far ?_ NB239_244.out _;(with_reducible repeat (first | refine blk_drewN ?_ _ | refine blk_drew ?_ | refine blk_alloc ?_ _));exact BK239.out⟩
 have n5_ : Aside0 ((((w158.setCell ⟨gb244,0,none⟩ (.bool false)).setCell ⟨gb244,1,none⟩ (.string (⟨#[]⟩ : ByteArray))).setCell ⟨gb244,2,none⟩ (.int .i64 0)).heap[gb244]? = some (.cells #[.bool false,.string (⟨#[]⟩ : ByteArray),.int .i64 0] 23 (0,0))) := ⟨by (with_reducible repeat (first | refine blk_drewN ?_ _ | refine blk_drew ?_ | refine blk_alloc ?_ _));refine blk_put (cs := #[.bool false,.string (⟨#[]⟩ : ByteArray),.int .i64 0]) ?_ 2 _ rfl;(with_reducible repeat (first | refine blk_drewN ?_ _ | refine blk_drew ?_ | refine blk_alloc ?_ _));refine blk_put (cs := #[.bool false,.string (⟨#[]⟩ : ByteArray),.int .i64 0]) ?_ 1 _ rfl;(with_reducible repeat (first | refine blk_drewN ?_ _ | refine blk_drew ?_ | refine blk_alloc ?_ _));refine blk_put (cs := #[.bool false,.string (⟨#[]⟩ : ByteArray),.int .i64 0]) ?_ 0 _ rfl;(with_reducible repeat (first | refine blk_drewN ?_ _ | refine blk_drew ?_ | refine blk_alloc ?_ _));exact BK244.out⟩
 have n6_ : Aside0 (Below w.heap.size w (((w158.setCell ⟨gb244,0,none⟩ (.bool false)).setCell ⟨gb244,1,none⟩ (.string (⟨#[]⟩ : ByteArray))).setCell ⟨gb244,2,none⟩ (.int .i64 0))) := ⟨by repeat (first | (with_reducible first | exact HB.out | apply below_alloc | apply pw_below_drewN | apply below_drew1 | refine below_set ?_ GE219.out | refine below_set ?_ GE224.out | refine below_set ?_ GE229.out | refine below_set ?_ GE234.out | refine below_set ?_ GE239.out | refine below_set ?_ GE244.out) | exact HB.out)⟩
 (try clear BK219)
 (try clear BK224)
 (try clear BK229)
 (try clear BK234)
 (try clear BK239)
 (try clear BK244)
 (try clear HB)
 generalize (((w158.setCell ⟨gb244,0,none⟩ (.bool false)).setCell ⟨gb244,1,none⟩ (.string (⟨#[]⟩ : ByteArray))).setCell ⟨gb244,2,none⟩ (.int .i64 0)) = w165 at n0_ n1_ n2_ n3_ n4_ n5_ n6_ ⊢
 have BK219 := n0_
 have BK224 := n1_
 have BK229 := n2_
 have BK234 := n3_
 have BK239 := n4_
 have BK244 := n5_
 have HB := n6_
 clear n0_ n1_ n2_ n3_ n4_ n5_ n6_
 have n0_ := Aside0.mk (blk_drew BK219.out)
 have n1_ := Aside0.mk (blk_drew BK224.out)
 have n2_ := Aside0.mk (blk_drew BK229.out)
 have n3_ := Aside0.mk (blk_drew BK234.out)
 have n4_ := Aside0.mk (blk_drew BK239.out)
 have n5_ := Aside0.mk (blk_drew BK244.out)
 have n6_ := Aside0.mk (below_drew1 HB.out)
 clear BK219
 clear BK224
 clear BK229
 clear BK234
 clear BK239
 clear BK244
 clear HB
 have BK219 := n0_
 have BK224 := n1_
 have BK229 := n2_
 have BK234 := n3_
 have BK239 := n4_
 have BK244 := n5_
 have HB := n6_
 clear n0_ n1_ n2_ n3_ n4_ n5_ n6_
 refine start_ (n := 37) (S := fun w' => w'.cell? ⟨gb219,0,none⟩ = some (.bool true) ∧ w'.cell? ⟨gb219,1,none⟩ = some (.string (⟨#[49,50,53]⟩ : ByteArray)) ∧ w'.cell? ⟨gb219,2,none⟩ = some (.int .i64 (-4)) ∧ w'.cell? ⟨gb224,0,none⟩ = some (.bool false) ∧ w'.cell? ⟨gb224,1,none⟩ = some (.string (⟨#[53]⟩ : ByteArray)) ∧ w'.cell? ⟨gb224,2,none⟩ = some (.int .i64 (-1)) ∧ w'.cell? ⟨gb229,0,none⟩ = some (.bool false) ∧ w'.cell? ⟨gb229,1,none⟩ = some (.string (⟨#[53]⟩ : ByteArray)) ∧ w'.cell? ⟨gb229,2,none⟩ = some (.int .i64 0)) (ds := []) #[false,false,false,false,false,false,false,false,false,false,false,false,false,false,false,false,false,false,false,false,false,false,false,false,false,false,false,false,false,false,false,false,false,false,false,false,false] (by kernel_rfl) rfl rfl ⟨(blk_cell BK219.out 0).trans rfl,(blk_cell BK219.out 1).trans rfl,(blk_cell BK219.out 2).trans rfl,(blk_cell BK224.out 0).trans rfl,(blk_cell BK224.out 1).trans rfl,(blk_cell BK224.out 2).trans rfl,(blk_cell BK229.out 0).trans rfl,(blk_cell BK229.out 1).trans rfl,(blk_cell BK229.out 2).trans rfl⟩ (fun hHeld => ?_);refine with_tabW tabardlaw7_shown.tab25 tabardlaw7_shown.bits25 (fun HT_ HW_ => ?_)
 generalize w165.drew = w166 at BK219 BK224 BK229 BK234 BK239 BK244 HB hHeld ⊢
 refine take_ (i := 0) (N := some 210) (v := ?_) (a' := ?_) #[true,false,false,false,false,false,false,false,false,false,false,false,false,false,false,false,false,false,false,false,false,false,false,false,false,false,false,false,false,false,false,false,false,false,false,false,false] rfl rfl (take_ofW HT_.out HW_.out (by kernel_rfl)) (fun _ _ _ h => h) (Or.inl ⟨by rfl,?_⟩) hHeld ?_ ?_
 rotate_left
 ·rintro w' ⟨s0,s1,s2,s3,s4,s5,s6,s7,s8⟩
  go_simp
  with_reducible rfl
 rotate_left
 ·simp only [Act.put,List.setIfInBounds_toArray,List.set_cons_zero,List.set_cons_succ,i64_w,i32_w]
  rfl
 refine one_ (i := 1) (N := some 211) #[true,true,false,false,false,false,false,false,false,false,false,false,false,false,false,false,false,false,false,false,false,false,false,false,false,false,false,false,false,false,false,false,false,false,false,false,false] rfl rfl (one_of HT_.out (by kernel_rfl)) (by decide) (fun K hK => ?_)
 refine goes_ Tryz.func13 (by kernel_rfl) rfl #[.bool true,.string (⟨#[49,50,53]⟩ : ByteArray),.int .i64 (-4)] (by rfl) rfl rfl (by (try simp only [List.map_toArray,List.map_cons,List.map_nil]);first | done | rfl | (simp only [List.length_drop,List.length_take];rfl)) ?_
 with_reducible refine (tabardlaw7_dec.calls true (⟨#[49,50,53]⟩ : ByteArray) (-4) true (⟨#[49,50,53]⟩ : ByteArray) (-4) _ A37.out).mono ?_
 rintro e w167 ⟨rfl,hb⟩
 refine ⟨_,rfl,?_⟩
 have n0_ := Aside0.mk (blk_below (g := gb219) (o := .cells #[.bool true,.string (⟨#[49,50,53]⟩ : ByteArray),.int .i64 (-4)] 23 (0,0)) (by (with_reducible repeat (first | refine blk_drewN ?_ _ | refine blk_drew ?_ | refine blk_alloc ?_ _));exact BK219.out) hb)
 have n1_ := Aside0.mk (blk_below (g := gb224) (o := .cells #[.bool false,.string (⟨#[53]⟩ : ByteArray),.int .i64 (-1)] 23 (0,0)) (by (with_reducible repeat (first | refine blk_drewN ?_ _ | refine blk_drew ?_ | refine blk_alloc ?_ _));exact BK224.out) hb)
 have n2_ := Aside0.mk (blk_below (g := gb229) (o := .cells #[.bool false,.string (⟨#[53]⟩ : ByteArray),.int .i64 0] 23 (0,0)) (by (with_reducible repeat (first | refine blk_drewN ?_ _ | refine blk_drew ?_ | refine blk_alloc ?_ _));exact BK229.out) hb)
 have n3_ := Aside0.mk (blk_below (g := gb234) (o := .cells #[.bool false,.string (⟨#[]⟩ : ByteArray),.int .i64 0] 23 (0,0)) (by (with_reducible repeat (first | refine blk_drewN ?_ _ | refine blk_drew ?_ | refine blk_alloc ?_ _));exact BK234.out) hb)
 have n4_ := Aside0.mk (blk_below (g := gb239) (o := .cells #[.bool false,.string (⟨#[]⟩ : ByteArray),.int .i64 0] 23 (0,0)) (by (with_reducible repeat (first | refine blk_drewN ?_ _ | refine blk_drew ?_ | refine blk_alloc ?_ _));exact BK239.out) hb)
 have n5_ := Aside0.mk (blk_below (g := gb244) (o := .cells #[.bool false,.string (⟨#[]⟩ : ByteArray),.int .i64 0] 23 (0,0)) (by (with_reducible repeat (first | refine blk_drewN ?_ _ | refine blk_drew ?_ | refine blk_alloc ?_ _));exact BK244.out) hb)
 have n6_ := Aside0.mk (below_step (by repeat (first | (with_reducible first | exact HB.out | apply below_alloc | apply pw_below_drewN | apply below_drew1 | refine below_set ?_ GE219.out | refine below_set ?_ GE224.out | refine below_set ?_ GE229.out | refine below_set ?_ GE234.out | refine below_set ?_ GE239.out | refine below_set ?_ GE244.out) | exact HB.out)) hb)
 clear BK219
 clear BK224
 clear BK229
 clear BK234
 clear BK239
 clear BK244
 clear HB
 have BK219 := n0_
 have BK224 := n1_
 have BK229 := n2_
 have BK234 := n3_
 have BK239 := n4_
 have BK244 := n5_
 have HB := n6_
 clear n0_ n1_ n2_ n3_ n4_ n5_ n6_
 (try clear hb)
 (try clear hb2)
 (try clear hk)
 (try clear hi)
 refine hK.out _ _ ⟨(blk_cell BK219.out 0).trans rfl,(blk_cell BK219.out 1).trans rfl,(blk_cell BK219.out 2).trans rfl,(blk_cell BK224.out 0).trans rfl,(blk_cell BK224.out 1).trans rfl,(blk_cell BK224.out 2).trans rfl,(blk_cell BK229.out 0).trans rfl,(blk_cell BK229.out 1).trans rfl,(blk_cell BK229.out 2).trans rfl⟩ (fun hHeld => ?_)
 clear hK K
 refine norm_ (a' := ?_) ?_ ?_
 rotate_left
 ·show Act.put _ (some 211) _ = _
  simp only [Act.put,List.setIfInBounds_toArray,List.set_cons_zero,List.set_cons_succ,i64_w,i32_w]
  rfl
 refine pure_ (i := 2) (N := some 212) (v := ?_) (a' := ?_) #[true,true,true,false,false,false,false,false,false,false,false,false,false,false,false,false,false,false,false,false,false,false,false,false,false,false,false,false,false,false,false,false,false,false,false,false,false] rfl rfl (any_of HT_.out (by kernel_rfl)) (fun _ _ _ h => h) (Or.inl ⟨by rfl,?_⟩) ?_ ?_
 rotate_left
 ·intro w'
  go_simp
  with_reducible rfl
 rotate_left
 ·simp only [Act.put,List.setIfInBounds_toArray,List.set_cons_zero,List.set_cons_succ,i64_w,i32_w]
  rfl
 refine pure_ (i := 3) (N := some 213) (v := ?_) (a' := ?_) #[true,true,true,true,false,false,false,false,false,false,false,false,false,false,false,false,false,false,false,false,false,false,false,false,false,false,false,false,false,false,false,false,false,false,false,false,false] rfl rfl (any_of HT_.out (by kernel_rfl)) (fun _ _ _ h => h) (Or.inl ⟨by rfl,?_⟩) ?_ ?_
 rotate_left
 ·intro w'
  go_simp
  with_reducible rfl
 rotate_left
 ·simp only [Act.put,List.setIfInBounds_toArray,List.set_cons_zero,List.set_cons_succ,i64_w,i32_w]
  rfl
 refine pure_ (i := 4) (N := some 214) (v := ?_) (a' := ?_) #[true,true,true,true,true,false,false,false,false,false,false,false,false,false,false,false,false,false,false,false,false,false,false,false,false,false,false,false,false,false,false,false,false,false,false,false,false] rfl rfl (any_of HT_.out (by kernel_rfl)) (fun _ _ _ h => h) (Or.inl ⟨by rfl,?_⟩) ?_ ?_
 rotate_left
 ·intro w'
  go_simp
  with_reducible rfl
 rotate_left
 ·simp only [Act.put,List.setIfInBounds_toArray,List.set_cons_zero,List.set_cons_succ,i64_w,i32_w]
  rfl
 refine pure_ (i := 5) (N := some 215) (v := ?_) (a' := ?_) #[true,true,true,true,true,true,false,false,false,false,false,false,false,false,false,false,false,false,false,false,false,false,false,false,false,false,false,false,false,false,false,false,false,false,false,false,false] rfl rfl (any_of HT_.out (by kernel_rfl)) (fun _ _ _ h => h) (Or.inl ⟨by rfl,?_⟩) ?_ ?_
 rotate_left
 ·intro w'
  go_simp
  with_reducible rfl
 rotate_left
 ·simp only [Act.put,List.setIfInBounds_toArray,List.set_cons_zero,List.set_cons_succ,i64_w,i32_w]
  rfl
 refine pure_ (i := 6) (N := some 216) (v := ?_) (a' := ?_) #[true,true,true,true,true,true,true,false,false,false,false,false,false,false,false,false,false,false,false,false,false,false,false,false,false,false,false,false,false,false,false,false,false,false,false,false,false] rfl rfl (any_of HT_.out (by kernel_rfl)) (fun _ _ _ h => h) (Or.inl ⟨by rfl,?_⟩) ?_ ?_
 rotate_left
 ·intro w'
  go_simp
  with_reducible rfl
 rotate_left
 ·simp only [Act.put,List.setIfInBounds_toArray,List.set_cons_zero,List.set_cons_succ,i64_w,i32_w]
  rfl
 refine pure_ (i := 7) (N := some 217) (v := ?_) (a' := ?_) #[true,true,true,true,true,true,true,true,false,false,false,false,false,false,false,false,false,false,false,false,false,false,false,false,false,false,false,false,false,false,false,false,false,false,false,false,false] rfl rfl (any_of HT_.out (by kernel_rfl)) (fun _ _ _ h => h) (Or.inl ⟨by rfl,?_⟩) ?_ ?_
 rotate_left
 ·intro w'
  go_simp
  with_reducible rfl
 rotate_left
 ·simp only [Act.put,List.setIfInBounds_toArray,List.set_cons_zero,List.set_cons_succ,i64_w,i32_w]
  rfl
 refine take_ (i := 8) (N := some 218) (v := ?_) (a' := ?_) #[true,true,true,true,true,true,true,true,true,false,false,false,false,false,false,false,false,false,false,false,false,false,false,false,false,false,false,false,false,false,false,false,false,false,false,false,false] rfl rfl (take_ofW HT_.out HW_.out (by kernel_rfl)) (fun _ _ _ h => h) (Or.inl ⟨by rfl,?_⟩) hHeld ?_ ?_
 rotate_left
 ·rintro w' ⟨s0,s1,s2,s3,s4,s5,s6,s7,s8⟩
  go_simp
  with_reducible rfl
 rotate_left
 ·simp only [Act.put,List.setIfInBounds_toArray,List.set_cons_zero,List.set_cons_succ,i64_w,i32_w]
  rfl
 refine one_ (i := 9) (N := some 219) #[true,true,true,true,true,true,true,true,true,true,false,false,false,false,false,false,false,false,false,false,false,false,false,false,false,false,false,false,false,false,false,false,false,false,false,false,false] rfl rfl (one_of HT_.out (by kernel_rfl)) (by decide) (fun K hK => ?_)
 refine goes_ Tryz.func13 (by kernel_rfl) rfl #[.bool false,.string (⟨#[53]⟩ : ByteArray),.int .i64 (-1)] (by rfl) rfl rfl (by (try simp only [List.map_toArray,List.map_cons,List.map_nil]);first | done | rfl | (simp only [List.length_drop,List.length_take];rfl)) ?_
 with_reducible refine (tabardlaw7_dec.calls false (⟨#[53]⟩ : ByteArray) (-1) false (⟨#[53]⟩ : ByteArray) (-1) _ A38.out).mono ?_
 rintro e w168 ⟨rfl,hb⟩
 refine ⟨_,rfl,?_⟩
 have n0_ := Aside0.mk (blk_below (g := gb219) (o := .cells #[.bool true,.string (⟨#[49,50,53]⟩ : ByteArray),.int .i64 (-4)] 23 (0,0)) (by (with_reducible repeat (first | refine blk_drewN ?_ _ | refine blk_drew ?_ | refine blk_alloc ?_ _));exact BK219.out) hb)
 have n1_ := Aside0.mk (blk_below (g := gb224) (o := .cells #[.bool false,.string (⟨#[53]⟩ : ByteArray),.int .i64 (-1)] 23 (0,0)) (by (with_reducible repeat (first | refine blk_drewN ?_ _ | refine blk_drew ?_ | refine blk_alloc ?_ _));exact BK224.out) hb)
 have n2_ := Aside0.mk (blk_below (g := gb229) (o := .cells #[.bool false,.string (⟨#[53]⟩ : ByteArray),.int .i64 0] 23 (0,0)) (by (with_reducible repeat (first | refine blk_drewN ?_ _ | refine blk_drew ?_ | refine blk_alloc ?_ _));exact BK229.out) hb)
 have n3_ := Aside0.mk (blk_below (g := gb234) (o := .cells #[.bool false,.string (⟨#[]⟩ : ByteArray),.int .i64 0] 23 (0,0)) (by (with_reducible repeat (first | refine blk_drewN ?_ _ | refine blk_drew ?_ | refine blk_alloc ?_ _));exact BK234.out) hb)
 have n4_ := Aside0.mk (blk_below (g := gb239) (o := .cells #[.bool false,.string (⟨#[]⟩ : ByteArray),.int .i64 0] 23 (0,0)) (by (with_reducible repeat (first | refine blk_drewN ?_ _ | refine blk_drew ?_ | refine blk_alloc ?_ _));exact BK239.out) hb)
 have n5_ := Aside0.mk (blk_below (g := gb244) (o := .cells #[.bool false,.string (⟨#[]⟩ : ByteArray),.int .i64 0] 23 (0,0)) (by (with_reducible repeat (first | refine blk_drewN ?_ _ | refine blk_drew ?_ | refine blk_alloc ?_ _));exact BK244.out) hb)
 have n6_ := Aside0.mk (below_step (by repeat (first | (with_reducible first | exact HB.out | apply below_alloc | apply pw_below_drewN | apply below_drew1 | refine below_set ?_ GE219.out | refine below_set ?_ GE224.out | refine below_set ?_ GE229.out | refine below_set ?_ GE234.out | refine below_set ?_ GE239.out | refine below_set ?_ GE244.out) | exact HB.out)) hb)
 clear BK219
 clear BK224
 clear BK229
 clear BK234
 clear BK239
 clear BK244
 clear HB
 have BK219 := n0_
 have BK224 := n1_
 have BK229 := n2_
 have BK234 := n3_
 have BK239 := n4_
 have BK244 := n5_
 have HB := n6_
 clear n0_ n1_ n2_ n3_ n4_ n5_ n6_
 (try clear hb)
 (try clear hb2)
 (try clear hk)
 (try clear hi)
 refine hK.out _ _ ⟨(blk_cell BK219.out 0).trans rfl,(blk_cell BK219.out 1).trans rfl,(blk_cell BK219.out 2).trans rfl,(blk_cell BK224.out 0).trans rfl,(blk_cell BK224.out 1).trans rfl,(blk_cell BK224.out 2).trans rfl,(blk_cell BK229.out 0).trans rfl,(blk_cell BK229.out 1).trans rfl,(blk_cell BK229.out 2).trans rfl⟩ (fun hHeld => ?_)
 clear hK K
 refine norm_ (a' := ?_) ?_ ?_
 rotate_left
 ·show Act.put _ (some 219) _ = _
  simp only [Act.put,List.setIfInBounds_toArray,List.set_cons_zero,List.set_cons_succ,i64_w,i32_w]
  rfl
 refine pure_ (i := 10) (N := some 220) (v := ?_) (a' := ?_) #[true,true,true,true,true,true,true,true,true,true,true,false,false,false,false,false,false,false,false,false,false,false,false,false,false,false,false,false,false,false,false,false,false,false,false,false,false] rfl rfl (any_of HT_.out (by kernel_rfl)) (fun _ _ _ h => h) (Or.inl ⟨by rfl,?_⟩) ?_ ?_
 rotate_left
 ·intro w'
  go_simp
  with_reducible rfl
 rotate_left
 ·simp only [Act.put,List.setIfInBounds_toArray,List.set_cons_zero,List.set_cons_succ,i64_w,i32_w]
  rfl
 refine pure_ (i := 11) (N := some 221) (v := ?_) (a' := ?_) #[true,true,true,true,true,true,true,true,true,true,true,true,false,false,false,false,false,false,false,false,false,false,false,false,false,false,false,false,false,false,false,false,false,false,false,false,false] rfl rfl (any_of HT_.out (by kernel_rfl)) (fun _ _ _ h => h) (Or.inl ⟨by rfl,?_⟩) ?_ ?_
 rotate_left
 ·intro w'
  go_simp
  with_reducible rfl
 rotate_left
 ·simp only [Act.put,List.setIfInBounds_toArray,List.set_cons_zero,List.set_cons_succ,i64_w,i32_w]
  rfl
 refine pure_ (i := 12) (N := some 222) (v := ?_) (a' := ?_) #[true,true,true,true,true,true,true,true,true,true,true,true,true,false,false,false,false,false,false,false,false,false,false,false,false,false,false,false,false,false,false,false,false,false,false,false,false] rfl rfl (any_of HT_.out (by kernel_rfl)) (fun _ _ _ h => h) (Or.inl ⟨by rfl,?_⟩) ?_ ?_
 rotate_left
 ·intro w'
  go_simp
  with_reducible rfl
 rotate_left
 ·simp only [Act.put,List.setIfInBounds_toArray,List.set_cons_zero,List.set_cons_succ,i64_w,i32_w]
  rfl
 refine pure_ (i := 13) (N := some 223) (v := ?_) (a' := ?_) #[true,true,true,true,true,true,true,true,true,true,true,true,true,true,false,false,false,false,false,false,false,false,false,false,false,false,false,false,false,false,false,false,false,false,false,false,false] rfl rfl (any_of HT_.out (by kernel_rfl)) (fun _ _ _ h => h) (Or.inl ⟨by rfl,?_⟩) ?_ ?_
 rotate_left
 ·intro w'
  go_simp
  with_reducible rfl
 rotate_left
 ·simp only [Act.put,List.setIfInBounds_toArray,List.set_cons_zero,List.set_cons_succ,i64_w,i32_w]
  rfl
 refine pure_ (i := 14) (N := some 224) (v := ?_) (a' := ?_) #[true,true,true,true,true,true,true,true,true,true,true,true,true,true,true,false,false,false,false,false,false,false,false,false,false,false,false,false,false,false,false,false,false,false,false,false,false] rfl rfl (any_of HT_.out (by kernel_rfl)) (fun _ _ _ h => h) (Or.inl ⟨by rfl,?_⟩) ?_ ?_
 rotate_left
 ·intro w'
  go_simp
  with_reducible rfl
 rotate_left
 ·simp only [Act.put,List.setIfInBounds_toArray,List.set_cons_zero,List.set_cons_succ,i64_w,i32_w]
  rfl
 refine pure_ (i := 15) (N := some 225) (v := ?_) (a' := ?_) #[true,true,true,true,true,true,true,true,true,true,true,true,true,true,true,true,false,false,false,false,false,false,false,false,false,false,false,false,false,false,false,false,false,false,false,false,false] rfl rfl (any_of HT_.out (by kernel_rfl)) (fun _ _ _ h => h) (Or.inl ⟨by rfl,?_⟩) ?_ ?_
 rotate_left
 ·intro w'
  go_simp
  with_reducible rfl
 rotate_left
 ·simp only [Act.put,List.setIfInBounds_toArray,List.set_cons_zero,List.set_cons_succ,i64_w,i32_w]
  rfl
 refine pure_ (i := 16) (N := some 226) (v := ?_) (a' := ?_) #[true,true,true,true,true,true,true,true,true,true,true,true,true,true,true,true,true,false,false,false,false,false,false,false,false,false,false,false,false,false,false,false,false,false,false,false,false] rfl rfl (any_of HT_.out (by kernel_rfl)) (fun _ _ _ h => h) (Or.inl ⟨by rfl,?_⟩) ?_ ?_
 rotate_left
 ·intro w'
  go_simp
  with_reducible rfl
 rotate_left
 ·simp only [Act.put,List.setIfInBounds_toArray,List.set_cons_zero,List.set_cons_succ,i64_w,i32_w]
  rfl
 refine take_ (i := 17) (N := some 227) (v := ?_) (a' := ?_) #[true,true,true,true,true,true,true,true,true,true,true,true,true,true,true,true,true,true,false,false,false,false,false,false,false,false,false,false,false,false,false,false,false,false,false,false,false] rfl rfl (take_ofW HT_.out HW_.out (by kernel_rfl)) (fun _ _ _ h => h) (Or.inl ⟨by rfl,?_⟩) hHeld ?_ ?_
 rotate_left
 ·rintro w' ⟨s0,s1,s2,s3,s4,s5,s6,s7,s8⟩
  go_simp
  with_reducible rfl
 rotate_left
 ·simp only [Act.put,List.setIfInBounds_toArray,List.set_cons_zero,List.set_cons_succ,i64_w,i32_w]
  rfl
 refine one_ (i := 18) (N := some 228) #[true,true,true,true,true,true,true,true,true,true,true,true,true,true,true,true,true,true,true,false,false,false,false,false,false,false,false,false,false,false,false,false,false,false,false,false,false] rfl rfl (one_of HT_.out (by kernel_rfl)) (by decide) (fun K hK => ?_)
 refine goes_ Tryz.func13 (by kernel_rfl) rfl #[.bool false,.string (⟨#[53]⟩ : ByteArray),.int .i64 0] (by rfl) rfl rfl (by (try simp only [List.map_toArray,List.map_cons,List.map_nil]);first | done | rfl | (simp only [List.length_drop,List.length_take];rfl)) ?_
 with_reducible refine (tabardlaw7_dec.calls false (⟨#[53]⟩ : ByteArray) 0 false (⟨#[53]⟩ : ByteArray) 0 _ A39.out).mono ?_
 rintro e w169 ⟨rfl,hb⟩
 refine ⟨_,rfl,?_⟩
 have n0_ := Aside0.mk (blk_below (g := gb219) (o := .cells #[.bool true,.string (⟨#[49,50,53]⟩ : ByteArray),.int .i64 (-4)] 23 (0,0)) (by (with_reducible repeat (first | refine blk_drewN ?_ _ | refine blk_drew ?_ | refine blk_alloc ?_ _));exact BK219.out) hb)
 have n1_ := Aside0.mk (blk_below (g := gb224) (o := .cells #[.bool false,.string (⟨#[53]⟩ : ByteArray),.int .i64 (-1)] 23 (0,0)) (by (with_reducible repeat (first | refine blk_drewN ?_ _ | refine blk_drew ?_ | refine blk_alloc ?_ _));exact BK224.out) hb)
 have n2_ := Aside0.mk (blk_below (g := gb229) (o := .cells #[.bool false,.string (⟨#[53]⟩ : ByteArray),.int .i64 0] 23 (0,0)) (by (with_reducible repeat (first | refine blk_drewN ?_ _ | refine blk_drew ?_ | refine blk_alloc ?_ _));exact BK229.out) hb)
 have n3_ := Aside0.mk (blk_below (g := gb234) (o := .cells #[.bool false,.string (⟨#[]⟩ : ByteArray),.int .i64 0] 23 (0,0)) (by (with_reducible repeat (first | refine blk_drewN ?_ _ | refine blk_drew ?_ | refine blk_alloc ?_ _));exact BK234.out) hb)
 have n4_ := Aside0.mk (blk_below (g := gb239) (o := .cells #[.bool false,.string (⟨#[]⟩ : ByteArray),.int .i64 0] 23 (0,0)) (by (with_reducible repeat (first | refine blk_drewN ?_ _ | refine blk_drew ?_ | refine blk_alloc ?_ _));exact BK239.out) hb)
 have n5_ := Aside0.mk (blk_below (g := gb244) (o := .cells #[.bool false,.string (⟨#[]⟩ : ByteArray),.int .i64 0] 23 (0,0)) (by (with_reducible repeat (first | refine blk_drewN ?_ _ | refine blk_drew ?_ | refine blk_alloc ?_ _));exact BK244.out) hb)
 have n6_ := Aside0.mk (below_step (by repeat (first | (with_reducible first | exact HB.out | apply below_alloc | apply pw_below_drewN | apply below_drew1 | refine below_set ?_ GE219.out | refine below_set ?_ GE224.out | refine below_set ?_ GE229.out | refine below_set ?_ GE234.out | refine below_set ?_ GE239.out | refine below_set ?_ GE244.out) | exact HB.out)) hb)
 clear BK219
 clear BK224
 clear BK229
 clear BK234
 clear BK239
 clear BK244
 clear HB
 have BK219 := n0_
 have BK224 := n1_
 have BK229 := n2_
 have BK234 := n3_
 have BK239 := n4_
 have BK244 := n5_
 have HB := n6_
 clear n0_ n1_ n2_ n3_ n4_ n5_ n6_
 (try clear hb)
 (try clear hb2)
 (try clear hk)
 (try clear hi)
 refine hK.out _ _ ⟨(blk_cell BK219.out 0).trans rfl,(blk_cell BK219.out 1).trans rfl,(blk_cell BK219.out 2).trans rfl,(blk_cell BK224.out 0).trans rfl,(blk_cell BK224.out 1).trans rfl,(blk_cell BK224.out 2).trans rfl,(blk_cell BK229.out 0).trans rfl,(blk_cell BK229.out 1).trans rfl,(blk_cell BK229.out 2).trans rfl⟩ (fun hHeld => ?_)
 clear hK K
 refine norm_ (a' := ?_) ?_ ?_
 rotate_left
 ·show Act.put _ (some 228) _ = _
  simp only [Act.put,List.setIfInBounds_toArray,List.set_cons_zero,List.set_cons_succ,i64_w,i32_w]
  rfl
 refine pure_ (i := 19) (N := some 229) (v := ?_) (a' := ?_) #[true,true,true,true,true,true,true,true,true,true,true,true,true,true,true,true,true,true,true,true,false,false,false,false,false,false,false,false,false,false,false,false,false,false,false,false,false] rfl rfl (any_of HT_.out (by kernel_rfl)) (fun _ _ _ h => h) (Or.inl ⟨by rfl,?_⟩) ?_ ?_
 rotate_left
 ·intro w'
  go_simp
  with_reducible rfl
 rotate_left
 ·simp only [Act.put,List.setIfInBounds_toArray,List.set_cons_zero,List.set_cons_succ,i64_w,i32_w]
  rfl
 refine pure_ (i := 20) (N := some 230) (v := ?_) (a' := ?_) #[true,true,true,true,true,true,true,true,true,true,true,true,true,true,true,true,true,true,true,true,true,false,false,false,false,false,false,false,false,false,false,false,false,false,false,false,false] rfl rfl (any_of HT_.out (by kernel_rfl)) (fun _ _ _ h => h) (Or.inl ⟨by rfl,?_⟩) ?_ ?_
 rotate_left
 ·intro w'
  go_simp
  with_reducible rfl
 rotate_left
 ·simp only [Act.put,List.setIfInBounds_toArray,List.set_cons_zero,List.set_cons_succ,i64_w,i32_w]
  rfl
 refine pure_ (i := 21) (N := some 231) (v := ?_) (a' := ?_) #[true,true,true,true,true,true,true,true,true,true,true,true,true,true,true,true,true,true,true,true,true,true,false,false,false,false,false,false,false,false,false,false,false,false,false,false,false] rfl rfl (any_of HT_.out (by kernel_rfl)) (fun _ _ _ h => h) (Or.inl ⟨by rfl,?_⟩) ?_ ?_
 rotate_left
 ·intro w'
  go_simp
  with_reducible rfl
 rotate_left
 ·simp only [Act.put,List.setIfInBounds_toArray,List.set_cons_zero,List.set_cons_succ,i64_w,i32_w]
  rfl
 refine pure_ (i := 22) (N := some 232) (v := ?_) (a' := ?_) #[true,true,true,true,true,true,true,true,true,true,true,true,true,true,true,true,true,true,true,true,true,true,true,false,false,false,false,false,false,false,false,false,false,false,false,false,false] rfl rfl (any_of HT_.out (by kernel_rfl)) (fun _ _ _ h => h) (Or.inl ⟨by rfl,?_⟩) ?_ ?_
 rotate_left
 ·intro w'
  go_simp
  with_reducible rfl
 rotate_left
 ·simp only [Act.put,List.setIfInBounds_toArray,List.set_cons_zero,List.set_cons_succ,i64_w,i32_w]
  rfl
 refine pure_ (i := 23) (N := some 233) (v := ?_) (a' := ?_) #[true,true,true,true,true,true,true,true,true,true,true,true,true,true,true,true,true,true,true,true,true,true,true,true,false,false,false,false,false,false,false,false,false,false,false,false,false] rfl rfl (any_of HT_.out (by kernel_rfl)) (fun _ _ _ h => h) (Or.inl ⟨by rfl,?_⟩) ?_ ?_
 rotate_left
 ·intro w'
  go_simp
  with_reducible rfl
 rotate_left
 ·simp only [Act.put,List.setIfInBounds_toArray,List.set_cons_zero,List.set_cons_succ,i64_w,i32_w]
  rfl
 refine pure_ (i := 24) (N := some 234) (v := ?_) (a' := ?_) #[true,true,true,true,true,true,true,true,true,true,true,true,true,true,true,true,true,true,true,true,true,true,true,true,true,false,false,false,false,false,false,false,false,false,false,false,false] rfl rfl (any_of HT_.out (by kernel_rfl)) (fun _ _ _ h => h) (Or.inl ⟨by rfl,?_⟩) ?_ ?_
 rotate_left
 ·intro w'
  go_simp
  with_reducible rfl
 rotate_left
 ·simp only [Act.put,List.setIfInBounds_toArray,List.set_cons_zero,List.set_cons_succ,i64_w,i32_w]
  rfl
 refine pure_ (i := 25) (N := some 235) (v := ?_) (a' := ?_) #[true,true,true,true,true,true,true,true,true,true,true,true,true,true,true,true,true,true,true,true,true,true,true,true,true,true,false,false,false,false,false,false,false,false,false,false,false] rfl rfl (any_of HT_.out (by kernel_rfl)) (fun _ _ _ h => h) (Or.inl ⟨by rfl,?_⟩) ?_ ?_
 rotate_left
 ·intro w'
  go_simp
  with_reducible rfl
 rotate_left
 ·simp only [Act.put,List.setIfInBounds_toArray,List.set_cons_zero,List.set_cons_succ,i64_w,i32_w]
  rfl
 refine pure_ (i := 26) (N := some 236) (v := ?_) (a' := ?_) #[true,true,true,true,true,true,true,true,true,true,true,true,true,true,true,true,true,true,true,true,true,true,true,true,true,true,true,false,false,false,false,false,false,false,false,false,false] rfl rfl (any_of HT_.out (by kernel_rfl)) (fun _ _ _ h => h) (Or.inl ⟨by rfl,?_⟩) ?_ ?_
 rotate_left
 ·intro w'
  go_simp
  with_reducible rfl
 rotate_left
 ·simp only [Act.put,List.setIfInBounds_toArray,List.set_cons_zero,List.set_cons_succ,i64_w,i32_w]
  rfl
 refine pure_ (i := 27) (N := some 237) (v := ?_) (a' := ?_) #[true,true,true,true,true,true,true,true,true,true,true,true,true,true,true,true,true,true,true,true,true,true,true,true,true,true,true,true,false,false,false,false,false,false,false,false,false] rfl rfl (any_of HT_.out (by kernel_rfl)) (fun _ _ _ h => h) (Or.inl ⟨by rfl,?_⟩) ?_ ?_
 rotate_left
 ·intro w'
  go_simp
  with_reducible rfl
 rotate_left
 ·simp only [Act.put,List.setIfInBounds_toArray,List.set_cons_zero,List.set_cons_succ,i64_w,i32_w]
  rfl
 refine pure_ (i := 28) (N := some 238) (v := ?_) (a' := ?_) #[true,true,true,true,true,true,true,true,true,true,true,true,true,true,true,true,true,true,true,true,true,true,true,true,true,true,true,true,true,false,false,false,false,false,false,false,false] rfl rfl (any_of HT_.out (by kernel_rfl)) (fun _ _ _ h => h) (Or.inl ⟨by rfl,?_⟩) ?_ ?_
 rotate_left
 ·intro w'
  go_simp
  with_reducible rfl
 rotate_left
 ·simp only [Act.put,List.setIfInBounds_toArray,List.set_cons_zero,List.set_cons_succ,i64_w,i32_w]
  rfl
 refine pure_ (i := 29) (N := some 239) (v := ?_) (a' := ?_) #[true,true,true,true,true,true,true,true,true,true,true,true,true,true,true,true,true,true,true,true,true,true,true,true,true,true,true,true,true,true,false,false,false,false,false,false,false] rfl rfl (any_of HT_.out (by kernel_rfl)) (fun _ _ _ h => h) (Or.inl ⟨by rfl,?_⟩) ?_ ?_
 rotate_left
 ·intro w'
  go_simp
  with_reducible rfl
 rotate_left
 ·simp only [Act.put,List.setIfInBounds_toArray,List.set_cons_zero,List.set_cons_succ,i64_w,i32_w]
  rfl
 refine pure_ (i := 30) (N := some 240) (v := ?_) (a' := ?_) #[true,true,true,true,true,true,true,true,true,true,true,true,true,true,true,true,true,true,true,true,true,true,true,true,true,true,true,true,true,true,true,false,false,false,false,false,false] rfl rfl (any_of HT_.out (by kernel_rfl)) (fun _ _ _ h => h) (Or.inl ⟨by rfl,?_⟩) ?_ ?_
 rotate_left
 ·intro w'
  go_simp
  with_reducible rfl
 rotate_left
 ·simp only [Act.put,List.setIfInBounds_toArray,List.set_cons_zero,List.set_cons_succ,i64_w,i32_w]
  rfl
 refine pure_ (i := 31) (N := some 241) (v := ?_) (a' := ?_) #[true,true,true,true,true,true,true,true,true,true,true,true,true,true,true,true,true,true,true,true,true,true,true,true,true,true,true,true,true,true,true,true,false,false,false,false,false] rfl rfl (any_of HT_.out (by kernel_rfl)) (fun _ _ _ h => h) (Or.inl ⟨by rfl,?_⟩) ?_ ?_
 rotate_left
 ·intro w'
  go_simp
  with_reducible rfl
 rotate_left
 ·simp only [Act.put,List.setIfInBounds_toArray,List.set_cons_zero,List.set_cons_succ,i64_w,i32_w]
  rfl
 refine pure_ (i := 32) (N := some 242) (v := ?_) (a' := ?_) #[true,true,true,true,true,true,true,true,true,true,true,true,true,true,true,true,true,true,true,true,true,true,true,true,true,true,true,true,true,true,true,true,true,false,false,false,false] rfl rfl (any_of HT_.out (by kernel_rfl)) (fun _ _ _ h => h) (Or.inl ⟨by rfl,?_⟩) ?_ ?_
 rotate_left
 ·intro w'
  go_simp
  with_reducible rfl
 rotate_left
 ·simp only [Act.put,List.setIfInBounds_toArray,List.set_cons_zero,List.set_cons_succ,i64_w,i32_w]
  rfl
 refine pure_ (i := 33) (N := some 243) (v := ?_) (a' := ?_) #[true,true,true,true,true,true,true,true,true,true,true,true,true,true,true,true,true,true,true,true,true,true,true,true,true,true,true,true,true,true,true,true,true,true,false,false,false] rfl rfl (any_of HT_.out (by kernel_rfl)) (fun _ _ _ h => h) (Or.inl ⟨by rfl,?_⟩) ?_ ?_
 rotate_left
 ·intro w'
  go_simp
  with_reducible rfl
 rotate_left
 ·simp only [Act.put,List.setIfInBounds_toArray,List.set_cons_zero,List.set_cons_succ,i64_w,i32_w]
  rfl
 refine pure_ (i := 34) (N := some 244) (v := ?_) (a' := ?_) #[true,true,true,true,true,true,true,true,true,true,true,true,true,true,true,true,true,true,true,true,true,true,true,true,true,true,true,true,true,true,true,true,true,true,true,false,false] rfl rfl (any_of HT_.out (by kernel_rfl)) (fun _ _ _ h => h) (Or.inl ⟨by rfl,?_⟩) ?_ ?_
 rotate_left
 ·intro w'
  go_simp
  with_reducible rfl
 rotate_left
 ·simp only [Act.put,List.setIfInBounds_toArray,List.set_cons_zero,List.set_cons_succ,i64_w,i32_w]
  rfl
 refine pure_ (i := 35) (N := some 245) (v := ?_) (a' := ?_) #[true,true,true,true,true,true,true,true,true,true,true,true,true,true,true,true,true,true,true,true,true,true,true,true,true,true,true,true,true,true,true,true,true,true,true,true,false] rfl rfl (any_of HT_.out (by kernel_rfl)) (fun _ _ _ h => h) (Or.inl ⟨by rfl,?_⟩) ?_ ?_
 rotate_left
 ·intro w'
  go_simp
  with_reducible rfl
 rotate_left
 ·simp only [Act.put,List.setIfInBounds_toArray,List.set_cons_zero,List.set_cons_succ,i64_w,i32_w]
  rfl
 refine pure_ (i := 36) (N := some 246) (v := ?_) (a' := ?_) #[true,true,true,true,true,true,true,true,true,true,true,true,true,true,true,true,true,true,true,true,true,true,true,true,true,true,true,true,true,true,true,true,true,true,true,true,true] rfl rfl (any_of HT_.out (by kernel_rfl)) (fun _ _ _ h => h) (Or.inl ⟨by rfl,?_⟩) ?_ ?_
 rotate_left
 ·intro w'
  go_simp
  with_reducible rfl
 rotate_left
 ·simp only [Act.put,List.setIfInBounds_toArray,List.set_cons_zero,List.set_cons_succ,i64_w,i32_w]
  rfl
 refine done_ (done_of HT_.out (by kernel_rfl)) ?_
 try go_wp2_with (first | ((with_reducible refine gate_callee (f := 13) rfl ?_);refine goesL_ (some 247) rfl rfl Tryz.func13 (by kernel_rfl) rfl #[.bool false,.string (⟨#[49,50,51]⟩ : ByteArray),.int .i64 0] rfl (by (try simp only [List.map_toArray,List.map_cons,List.map_nil]);first | done | rfl | (simp only [List.length_drop,List.length_take];rfl)) ?_;(with_reducible refine (tabardlaw7_dec.calls false (⟨#[49,50,51]⟩ : ByteArray) 0 false (⟨#[49,50,51]⟩ : ByteArray) 0 _ A40.out).mono ?_);rintro e w170 ⟨rfl,hb⟩;refine ⟨_,rfl,?_⟩;have n0_ := Aside0.mk (below_step (by repeat (first | (with_reducible first | exact HB.out | apply below_alloc | apply pw_below_drewN | apply below_drew1) | exact HB.out)) hb);clear HB;have HB := n0_;clear n0_;(try clear hb);(try clear hb2);(try clear hk);(try clear hi)) | ((with_reducible refine gate_callee (f := 17) rfl ?_);refine goesL_ (some 248) rfl rfl Tryz.func17 (by kernel_rfl) rfl #[.agg #[.bool false,.string (⟨#[49,50,51]⟩ : ByteArray),.int .i64 0]] rfl (by (try simp only [List.map_toArray,List.map_cons,List.map_nil]);first | done | rfl | (simp only [List.length_drop,List.length_take];rfl)) ?_;(with_reducible refine (decimal_Print.calls k false (⟨#[49,50,51]⟩ : ByteArray) 0 (⟨#[49,50,51]⟩ : ByteArray) _ ?side1 A41.out).mono ?_);(case side1 => exact Tabs.below HT.out (by repeat (first | (with_reducible first | exact HB.out | apply below_alloc | apply pw_below_drewN | apply below_drew1) | exact HB.out)));rintro e w171 ⟨rfl,hb⟩;refine ⟨_,rfl,?_⟩;have n0_ := Aside0.mk (below_step (by repeat (first | (with_reducible first | exact HB.out | apply below_alloc | apply pw_below_drewN | apply below_drew1) | exact HB.out)) hb);clear HB;have HB := n0_;clear n0_;(try clear hb);(try clear hb2);(try clear hk);(try clear hi)) | (go_at_call 13;(with_reducible refine (tabardlaw7_dec.calls false (⟨#[49,50,51]⟩ : ByteArray) (-1) false (⟨#[49,50,51]⟩ : ByteArray) (-1) _ A42.out).mono ?_);rintro e w172 ⟨rfl,hb⟩;have n0_ := Aside0.mk (below_step (by repeat (first | (with_reducible first | exact HB.out | apply below_alloc | apply pw_below_drewN | apply below_drew1) | exact HB.out)) hb);clear HB;have HB := n0_;clear n0_;(try clear hb);(try clear hb2);(try clear hk);(try clear hi)) | (go_at_call 17;(with_reducible refine (decimal_Print.calls k false (⟨#[49,50,51]⟩ : ByteArray) (-1) (⟨#[49,50,46,51]⟩ : ByteArray) _ ?side1 A43.out).mono ?_);(case side1 => exact Tabs.below HT.out (by repeat (first | (with_reducible first | exact HB.out | apply below_alloc | apply pw_below_drewN | apply below_drew1) | exact HB.out)));rintro e w173 ⟨rfl,hb⟩;have n0_ := Aside0.mk (below_step (by repeat (first | (with_reducible first | exact HB.out | apply below_alloc | apply pw_below_drewN | apply below_drew1) | exact HB.out)) hb);clear HB;have HB := n0_;clear n0_;(try clear hb);(try clear hb2);(try clear hk);(try clear hi)) | (go_at_call 13;(with_reducible refine (tabardlaw7_dec.calls false (⟨#[49,50,51]⟩ : ByteArray) (-3) false (⟨#[49,50,51]⟩ : ByteArray) (-3) _ A44.out).mono ?_);rintro e w174 ⟨rfl,hb⟩;have n0_ := Aside0.mk (below_step (by repeat (first | (with_reducible first | exact HB.out | apply below_alloc | apply pw_below_drewN | apply below_drew1) | exact HB.out)) hb);clear HB;have HB := n0_;clear n0_;(try clear hb);(try clear hb2);(try clear hk);(try clear hi)) | (go_at_call 17;(with_reducible refine (decimal_Print.calls k false (⟨#[49,50,51]⟩ : ByteArray) (-3) (⟨#[48,46,49,50,51]⟩ : ByteArray) _ ?side1 A45.out).mono ?_);(case side1 => exact Tabs.below HT.out (by repeat (first | (with_reducible first | exact HB.out | apply below_alloc | apply pw_below_drewN | apply below_drew1) | exact HB.out)));rintro e w175 ⟨rfl,hb⟩;have n0_ := Aside0.mk (below_step (by repeat (first | (with_reducible first | exact HB.out | apply below_alloc | apply pw_below_drewN | apply below_drew1) | exact HB.out)) hb);clear HB;have HB := n0_;clear n0_;(try clear hb);(try clear hb2);(try clear hk);(try clear hi)) | (go_at_call 13;(with_reducible refine (tabardlaw7_dec.calls false (⟨#[49,50,51]⟩ : ByteArray) (-8) false (⟨#[49,50,51]⟩ : ByteArray) (-8) _ A46.out).mono ?_);rintro e w176 ⟨rfl,hb⟩;have n0_ := Aside0.mk (below_step (by repeat (first | (with_reducible first | exact HB.out | apply below_alloc | apply pw_below_drewN | apply below_drew1) | exact HB.out)) hb);clear HB;have HB := n0_;clear n0_;(try clear hb);(try clear hb2);(try clear hk);(try clear hi)) | (go_at_call 17;(with_reducible refine (decimal_Print.calls k false (⟨#[49,50,51]⟩ : ByteArray) (-8) (⟨#[48,46,48,48,48,48,48,49,50,51]⟩ : ByteArray) _ ?side1 A47.out).mono ?_);(case side1 => exact Tabs.below HT.out (by repeat (first | (with_reducible first | exact HB.out | apply below_alloc | apply pw_below_drewN | apply below_drew1) | exact HB.out)));rintro e w177 ⟨rfl,hb⟩;have n0_ := Aside0.mk (below_step (by repeat (first | (with_reducible first | exact HB.out | apply below_alloc | apply pw_below_drewN | apply below_drew1) | exact HB.out)) hb);clear HB;have HB := n0_;clear n0_;(try clear hb);(try clear hb2);(try clear hk);(try clear hi)) | (go_at_call 13;(with_reducible refine (tabardlaw7_dec.calls false (⟨#[49,50,51]⟩ : ByteArray) (-9) false (⟨#[49,50,51]⟩ : ByteArray) (-9) _ A48.out).mono ?_);rintro e w178 ⟨rfl,hb⟩;have n0_ := Aside0.mk (below_step (by repeat (first | (with_reducible first | exact HB.out | apply below_alloc | apply pw_below_drewN | apply below_drew1) | exact HB.out)) hb);clear HB;have HB := n0_;clear n0_;(try clear hb);(try clear hb2);(try clear hk);(try clear hi)) | (go_at_call 17;(with_reducible refine (decimal_Print.calls k false (⟨#[49,50,51]⟩ : ByteArray) (-9) (⟨#[49,46,50,51,101,45,55]⟩ : ByteArray) _ ?side1 A49.out).mono ?_);(case side1 => exact Tabs.below HT.out (by repeat (first | (with_reducible first | exact HB.out | apply below_alloc | apply pw_below_drewN | apply below_drew1) | exact HB.out)));rintro e w179 ⟨rfl,hb⟩;have n0_ := Aside0.mk (below_step (by repeat (first | (with_reducible first | exact HB.out | apply below_alloc | apply pw_below_drewN | apply below_drew1) | exact HB.out)) hb);clear HB;have HB := n0_;clear n0_;(try clear hb);(try clear hb2);(try clear hk);(try clear hi)) | (go_at_call 13;(with_reducible refine (tabardlaw7_dec.calls false (⟨#[49,50,51]⟩ : ByteArray) 18 false (⟨#[49,50,51]⟩ : ByteArray) 18 _ A50.out).mono ?_);rintro e w180 ⟨rfl,hb⟩;have n0_ := Aside0.mk (below_step (by repeat (first | (with_reducible first | exact HB.out | apply below_alloc | apply pw_below_drewN | apply below_drew1) | exact HB.out)) hb);clear HB;have HB := n0_;clear n0_;(try clear hb);(try clear hb2);(try clear hk);(try clear hi)) | (go_at_call 17;(with_reducible refine (decimal_Print.calls k false (⟨#[49,50,51]⟩ : ByteArray) 18 (⟨#[49,50,51,48,48,48,48,48,48,48,48,48,48,48,48,48,48,48,48,48,48]⟩ : ByteArray) _ ?side1 A51.out).mono ?_);(case side1 => exact Tabs.below HT.out (by repeat (first | (with_reducible first | exact HB.out | apply below_alloc | apply pw_below_drewN | apply below_drew1) | exact HB.out)));rintro e w181 ⟨rfl,hb⟩;have n0_ := Aside0.mk (below_step (by repeat (first | (with_reducible first | exact HB.out | apply below_alloc | apply pw_below_drewN | apply below_drew1) | exact HB.out)) hb);clear HB;have HB := n0_;clear n0_;(try clear hb);(try clear hb2);(try clear hk);(try clear hi)) | (go_at_call 13;(with_reducible refine (tabardlaw7_dec.calls false (⟨#[49,50,51]⟩ : ByteArray) 19 false (⟨#[49,50,51]⟩ : ByteArray) 19 _ A52.out).mono ?_);rintro e w182 ⟨rfl,hb⟩;have n0_ := Aside0.mk (below_step (by repeat (first | (with_reducible first | exact HB.out | apply below_alloc | apply pw_below_drewN | apply below_drew1) | exact HB.out)) hb);clear HB;have HB := n0_;clear n0_;(try clear hb);(try clear hb2);(try clear hk);(try clear hi)) | (go_at_call 17;(with_reducible refine (decimal_Print.calls k false (⟨#[49,50,51]⟩ : ByteArray) 19 (⟨#[49,46,50,51,101,43,50,49]⟩ : ByteArray) _ ?side1 A53.out).mono ?_);(case side1 => exact Tabs.below HT.out (by repeat (first | (with_reducible first | exact HB.out | apply below_alloc | apply pw_below_drewN | apply below_drew1) | exact HB.out)));rintro e w183 ⟨rfl,hb⟩;have n0_ := Aside0.mk (below_step (by repeat (first | (with_reducible first | exact HB.out | apply below_alloc | apply pw_below_drewN | apply below_drew1) | exact HB.out)) hb);clear HB;have HB := n0_;clear n0_;(try clear hb);(try clear hb2);(try clear hk);(try clear hi)))
 go_ret
 exact ⟨by first | rfl | (simp [errW_none,errW_some] <;> rfl) | (simp [*,errW_none,errW_some] <;> rfl),by repeat (first | (with_reducible first | exact HB.out | apply below_alloc | apply pw_below_drewN | apply below_drew1) | exact HB.out)⟩

end Go.Proofs.YtneeeaafhjaooaaGreatDoor.S
