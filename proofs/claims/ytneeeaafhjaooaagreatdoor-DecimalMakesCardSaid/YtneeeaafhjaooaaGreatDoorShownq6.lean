import Derived.Test.YtneeeaafhjaooaaGreatDoorS1q6
import Derived.Test.YtneeeaafhjaooaaGreatDoorProg
import Derived.Test.YtneeeaafhjaooaaGreatDoorP0q6
import Derived.Test.YtneeeaafhjaooaaGreatDoorElibq6
import Derived.Test.YtneeeaafhjaooaaGreatDoorP2q6
import Derived.Test.YtneeeaafhjaooaaGreatDoorP3q6
import Derived.Test.YtneeeaafhjaooaaGreatDoorP4q6
import Derived.Test.YtneeeaafhjaooaaGreatDoorP5q6
import Derived.Test.YtneeeaafhjaooaaGreatDoorP6q6
import Derived.Test.YtneeeaafhjaooaaGreatDoorP7q6
import Derived.Test.YtneeeaafhjaooaaGreatDoorDecEq6
import Derived.Test.YtneeeaafhjaooaaGreatDoorDecDq6
import Derived.Test.YtneeeaafhjaooaaGreatDoorDecAq6
import Derived.Test.YtneeeaafhjaooaaGreatDoorDecGq6
import Derived.Test.YtneeeaafhjaooaaGreatDoorLibsq6
import Derived.Lib.Atoi
import Derived.Lib.ItoaLen
import Derived.Lib.ItoaMem
set_option linter.unusedSimpArgs false
set_option linter.unusedVariables false
namespace Go.Proofs.YtneeeaafhjaooaaGreatDoor.P
set_option linter.all false
open Go.RowKit Go.Proofs.YtneeeaafhjaooaaGreatDoorW.PrintWords Go.Proofs.YtneeeaafhjaooaaGreatDoorW.PrintLast Go.Proofs.YtneeeaafhjaooaaGreatDoorW.PrintMore

theorem d7 : Lib.decDigits 7 = [55] := Lib.decDigits_one (by decide)
theorem d21 : Lib.decDigits 21 = [50, 49] := Lib.decDigits_two (by decide) (by decide)
theorem evTo {α : Type} {g : Nat → Option α} {r s : α} (h : Ev g r) (e : r = s) : Ev g s := e ▸ h

theorem sh_A10 : decimal_Make.f false (⟨#[48, 48, 49, 50, 48]⟩ : ByteArray) 3 = some (false, (⟨#[49, 50]⟩ : ByteArray), 4, 0) := (Make_eq false [48, 48, 49, 50, 48] 3 (by decide) (by decide) (by decide)).trans rfl
theorem sh_A20 : decimal_Make.f true (⟨#[48, 48, 48]⟩ : ByteArray) 7 = some (true, (⟨#[]⟩ : ByteArray), 0, 0) := (Make_eq true [48, 48, 48] 7 (by decide) (by decide) (by decide)).trans rfl
theorem sh_A30 : decimal_Make.f false (⟨#[49, 120]⟩ : ByteArray) 0 = some (false, (⟨#[]⟩ : ByteArray), 0, 3) := (Make_eq false [49, 120] 0 (by decide) (by decide) (by decide)).trans rfl
theorem sh_A40 : decimal_Make.f false (⟨#[49]⟩ : ByteArray) 100001 = some (false, (⟨#[]⟩ : ByteArray), 0, 2) := (Make_eq false [49] 100001 (by decide) (by decide) (by decide)).trans rfl
theorem sh_A50 : tabardlaw7_dec.f false (⟨#[49, 50]⟩ : ByteArray) 4 = some (false, (⟨#[49, 50]⟩ : ByteArray), 4) := rfl
theorem sh_A60 : tabardlaw7_dec.f true (⟨#[]⟩ : ByteArray) 0 = some (true, (⟨#[]⟩ : ByteArray), 0) := rfl
theorem sh_A70 : tabardlaw7_dec.f false (⟨#[49, 50, 51, 52, 53]⟩ : ByteArray) 0 = some (false, (⟨#[49, 50, 51, 52, 53]⟩ : ByteArray), 0) := rfl
theorem sh_A80 : Ev (fun k => decimal_Sig.f k false (⟨#[49, 50, 51, 52, 53]⟩ : ByteArray) 0 3 0) (false, (⟨#[49, 50, 51]⟩ : ByteArray), 2, 0) := evTo (Sig_eq false [49, 50, 51, 52, 53] 0 3 0 (by decide)) rfl
theorem sh_A90 : tabardlaw7_dec.f false (⟨#[49, 50, 51, 53]⟩ : ByteArray) 1 = some (false, (⟨#[49, 50, 51, 53]⟩ : ByteArray), 1) := rfl
theorem sh_A100 : Ev (fun k => decimal_Sig.f k false (⟨#[49, 50, 51, 53]⟩ : ByteArray) 1 3 0) (false, (⟨#[49, 50, 52]⟩ : ByteArray), 2, 0) := evTo (Sig_eq false [49, 50, 51, 53] 1 3 0 (by decide)) rfl
theorem sh_A110 : tabardlaw7_dec.f true (⟨#[49, 50, 51, 53]⟩ : ByteArray) 1 = some (true, (⟨#[49, 50, 51, 53]⟩ : ByteArray), 1) := rfl
theorem sh_A120 : Ev (fun k => decimal_Sig.f k true (⟨#[49, 50, 51, 53]⟩ : ByteArray) 1 3 4) (true, (⟨#[49, 50, 52]⟩ : ByteArray), 2, 0) := evTo (Sig_eq true [49, 50, 51, 53] 1 3 4 (by decide)) rfl
theorem sh_A130 : tabardlaw7_dec.f false (⟨#[57, 57, 57]⟩ : ByteArray) (-2) = some (false, (⟨#[57, 57, 57]⟩ : ByteArray), (-2)) := rfl
theorem sh_A140 : Ev (fun k => decimal_Sig.f k false (⟨#[57, 57, 57]⟩ : ByteArray) (-2) 1 3) (false, (⟨#[49]⟩ : ByteArray), 1, 0) := evTo (Sig_eq false [57, 57, 57] (-2) 1 3 (by decide)) rfl
theorem sh_A150 : tabardlaw7_dec.f false (⟨#[49, 50, 51]⟩ : ByteArray) 2 = some (false, (⟨#[49, 50, 51]⟩ : ByteArray), 2) := rfl
theorem sh_A160 : tabardlaw7_dec.f false (⟨#[49, 50, 52]⟩ : ByteArray) 2 = some (false, (⟨#[49, 50, 52]⟩ : ByteArray), 2) := rfl
theorem sh_A170 : tabardlaw7_dec.f true (⟨#[49, 50, 52]⟩ : ByteArray) 2 = some (true, (⟨#[49, 50, 52]⟩ : ByteArray), 2) := rfl
theorem sh_A180 : tabardlaw7_dec.f false (⟨#[49]⟩ : ByteArray) 1 = some (false, (⟨#[49]⟩ : ByteArray), 1) := rfl
theorem sh_A190 : tabardlaw7_dec.f false (⟨#[50, 53]⟩ : ByteArray) (-1) = some (false, (⟨#[50, 53]⟩ : ByteArray), (-1)) := rfl
theorem sh_A200 : Ev (fun k => decimal_Place.f k false (⟨#[50, 53]⟩ : ByteArray) (-1) 0 0) (false, (⟨#[50]⟩ : ByteArray), 0, 0) := evTo (Place_eq false [50, 53] (-1) 0 0 (by decide)) rfl
theorem sh_A210 : tabardlaw7_dec.f true (⟨#[52]⟩ : ByteArray) (-1) = some (true, (⟨#[52]⟩ : ByteArray), (-1)) := rfl
theorem sh_A220 : Ev (fun k => decimal_Place.f k true (⟨#[52]⟩ : ByteArray) (-1) 0 1) (true, (⟨#[]⟩ : ByteArray), 0, 0) := evTo (Place_eq true [52] (-1) 0 1 (by decide)) rfl
theorem sh_A230 : tabardlaw7_dec.f false (⟨#[49, 50, 53]⟩ : ByteArray) 1 = some (false, (⟨#[49, 50, 53]⟩ : ByteArray), 1) := rfl
theorem sh_A240 : Ev (fun k => decimal_Place.f k false (⟨#[49, 50, 53]⟩ : ByteArray) 1 (-2) 0) (false, (⟨#[49, 50]⟩ : ByteArray), 2, 0) := evTo (Place_eq false [49, 50, 53] 1 (-2) 0 (by decide)) rfl
theorem sh_A250 : tabardlaw7_dec.f false (⟨#[49]⟩ : ByteArray) (-3) = some (false, (⟨#[49]⟩ : ByteArray), (-3)) := rfl
theorem sh_A260 : Ev (fun k => decimal_Place.f k false (⟨#[49]⟩ : ByteArray) (-3) 2 5) (false, (⟨#[49]⟩ : ByteArray), (-2), 0) := evTo (Place_eq false [49] (-3) 2 5 (by decide)) rfl
theorem sh_A270 : tabardlaw7_dec.f false (⟨#[50]⟩ : ByteArray) 0 = some (false, (⟨#[50]⟩ : ByteArray), 0) := rfl
theorem sh_A280 : tabardlaw7_dec.f true (⟨#[]⟩ : ByteArray) 0 = some (true, (⟨#[]⟩ : ByteArray), 0) := rfl
theorem sh_A290 : tabardlaw7_dec.f false (⟨#[49, 50]⟩ : ByteArray) 2 = some (false, (⟨#[49, 50]⟩ : ByteArray), 2) := rfl
theorem sh_A300 : tabardlaw7_dec.f false (⟨#[49]⟩ : ByteArray) (-2) = some (false, (⟨#[49]⟩ : ByteArray), (-2)) := rfl
theorem sh_A310 : Ev (fun k => decimal_Parse.f k (⟨#[45, 49, 50, 46, 53, 48, 101, 45, 51]⟩ : ByteArray)) (true, (⟨#[49, 50, 53]⟩ : ByteArray), (-4), 0) := evTo (Parse_eq [45, 49, 50, 46, 53, 48, 101, 45, 51] (by decide)) rfl
theorem sh_A320 : Ev (fun k => decimal_Parse.f k (⟨#[46, 53]⟩ : ByteArray)) (false, (⟨#[53]⟩ : ByteArray), (-1), 0) := evTo (Parse_eq [46, 53] (by decide)) rfl
theorem sh_A330 : Ev (fun k => decimal_Parse.f k (⟨#[53, 46]⟩ : ByteArray)) (false, (⟨#[53]⟩ : ByteArray), 0, 0) := evTo (Parse_eq [53, 46] (by decide)) rfl
theorem sh_A340 : Ev (fun k => decimal_Parse.f k (⟨#[46]⟩ : ByteArray)) (false, (⟨#[]⟩ : ByteArray), 0, 3) := evTo (Parse_eq [46] (by decide)) rfl
theorem sh_A350 : Ev (fun k => decimal_Parse.f k (⟨#[49, 101]⟩ : ByteArray)) (false, (⟨#[]⟩ : ByteArray), 0, 3) := evTo (Parse_eq [49, 101] (by decide)) rfl
theorem sh_A360 : Ev (fun k => decimal_Parse.f k (⟨#[43, 49]⟩ : ByteArray)) (false, (⟨#[]⟩ : ByteArray), 0, 3) := evTo (Parse_eq [43, 49] (by decide)) rfl
theorem sh_A370 : tabardlaw7_dec.f true (⟨#[49, 50, 53]⟩ : ByteArray) (-4) = some (true, (⟨#[49, 50, 53]⟩ : ByteArray), (-4)) := rfl
theorem sh_A380 : tabardlaw7_dec.f false (⟨#[53]⟩ : ByteArray) (-1) = some (false, (⟨#[53]⟩ : ByteArray), (-1)) := rfl
theorem sh_A390 : tabardlaw7_dec.f false (⟨#[53]⟩ : ByteArray) 0 = some (false, (⟨#[53]⟩ : ByteArray), 0) := rfl
theorem sh_A400 : tabardlaw7_dec.f false (⟨#[49, 50, 51]⟩ : ByteArray) 0 = some (false, (⟨#[49, 50, 51]⟩ : ByteArray), 0) := rfl
theorem sh_A410 : Ev (fun k => decimal_Print.f k false (⟨#[49, 50, 51]⟩ : ByteArray) 0) (⟨#[49, 50, 51]⟩ : ByteArray) := evTo (Print_eq false [49, 50, 51] 0 (by decide)) rfl
theorem sh_A420 : tabardlaw7_dec.f false (⟨#[49, 50, 51]⟩ : ByteArray) (-1) = some (false, (⟨#[49, 50, 51]⟩ : ByteArray), (-1)) := rfl
theorem sh_A430 : Ev (fun k => decimal_Print.f k false (⟨#[49, 50, 51]⟩ : ByteArray) (-1)) (⟨#[49, 50, 46, 51]⟩ : ByteArray) := evTo (Print_eq false [49, 50, 51] (-1) (by decide)) rfl
theorem sh_A440 : tabardlaw7_dec.f false (⟨#[49, 50, 51]⟩ : ByteArray) (-3) = some (false, (⟨#[49, 50, 51]⟩ : ByteArray), (-3)) := rfl
theorem sh_A450 : Ev (fun k => decimal_Print.f k false (⟨#[49, 50, 51]⟩ : ByteArray) (-3)) (⟨#[48, 46, 49, 50, 51]⟩ : ByteArray) := evTo (Print_eq false [49, 50, 51] (-3) (by decide)) rfl
theorem sh_A460 : tabardlaw7_dec.f false (⟨#[49, 50, 51]⟩ : ByteArray) (-8) = some (false, (⟨#[49, 50, 51]⟩ : ByteArray), (-8)) := rfl
theorem sh_A470 : Ev (fun k => decimal_Print.f k false (⟨#[49, 50, 51]⟩ : ByteArray) (-8)) (⟨#[48, 46, 48, 48, 48, 48, 48, 49, 50, 51]⟩ : ByteArray) := evTo (Print_eq false [49, 50, 51] (-8) (by decide)) rfl
theorem sh_A480 : tabardlaw7_dec.f false (⟨#[49, 50, 51]⟩ : ByteArray) (-9) = some (false, (⟨#[49, 50, 51]⟩ : ByteArray), (-9)) := rfl
theorem sh_A490 : Ev (fun k => decimal_Print.f k false (⟨#[49, 50, 51]⟩ : ByteArray) (-9)) (⟨#[49, 46, 50, 51, 101, 45, 55]⟩ : ByteArray) := evTo (Print_eq false [49, 50, 51] (-9) (by decide)) ((congrArg B (show printL false [49, 50, 51] (-9) = [49, 46, 50, 51, 101, 45] ++ Lib.decDigits 7 from rfl)).trans (by rw [d7]; rfl))
theorem sh_A500 : tabardlaw7_dec.f false (⟨#[49, 50, 51]⟩ : ByteArray) 18 = some (false, (⟨#[49, 50, 51]⟩ : ByteArray), 18) := rfl
theorem sh_A510 : Ev (fun k => decimal_Print.f k false (⟨#[49, 50, 51]⟩ : ByteArray) 18) (⟨#[49, 50, 51, 48, 48, 48, 48, 48, 48, 48, 48, 48, 48, 48, 48, 48, 48, 48, 48, 48, 48]⟩ : ByteArray) := evTo (Print_eq false [49, 50, 51] 18 (by decide)) rfl
theorem sh_A520 : tabardlaw7_dec.f false (⟨#[49, 50, 51]⟩ : ByteArray) 19 = some (false, (⟨#[49, 50, 51]⟩ : ByteArray), 19) := rfl
theorem sh_A530 : Ev (fun k => decimal_Print.f k false (⟨#[49, 50, 51]⟩ : ByteArray) 19) (⟨#[49, 46, 50, 51, 101, 43, 50, 49]⟩ : ByteArray) := evTo (Print_eq false [49, 50, 51] 19 (by decide)) ((congrArg B (show printL false [49, 50, 51] 19 = [49, 46, 50, 51, 101, 43] ++ Lib.decDigits 21 from rfl)).trans (by rw [d21]; rfl))
theorem shown_true (w : World) (hT : Tabs w) : Calls Tryz.prog 4 #[] w fun e w' => e = .returned (.bool true) ∧ Below w.heap.size w w' := by
  obtain ⟨KA80, hA80⟩ := sh_A80
  obtain ⟨KA100, hA100⟩ := sh_A100
  obtain ⟨KA120, hA120⟩ := sh_A120
  obtain ⟨KA140, hA140⟩ := sh_A140
  obtain ⟨KA200, hA200⟩ := sh_A200
  obtain ⟨KA220, hA220⟩ := sh_A220
  obtain ⟨KA240, hA240⟩ := sh_A240
  obtain ⟨KA260, hA260⟩ := sh_A260
  obtain ⟨KA310, hA310⟩ := sh_A310
  obtain ⟨KA320, hA320⟩ := sh_A320
  obtain ⟨KA330, hA330⟩ := sh_A330
  obtain ⟨KA340, hA340⟩ := sh_A340
  obtain ⟨KA350, hA350⟩ := sh_A350
  obtain ⟨KA360, hA360⟩ := sh_A360
  obtain ⟨KA410, hA410⟩ := sh_A410
  obtain ⟨KA430, hA430⟩ := sh_A430
  obtain ⟨KA450, hA450⟩ := sh_A450
  obtain ⟨KA470, hA470⟩ := sh_A470
  obtain ⟨KA490, hA490⟩ := sh_A490
  obtain ⟨KA510, hA510⟩ := sh_A510
  obtain ⟨KA530, hA530⟩ := sh_A530
  exact S.tabardlaw7_shown.calls (KA80 + KA100 + KA120 + KA140 + KA200 + KA220 + KA240 + KA260 + KA310 + KA320 + KA330 + KA340 + KA350 + KA360 + KA410 + KA430 + KA450 + KA470 + KA490 + KA510 + KA530) true w hT rfl sh_A10 sh_A20 sh_A30 sh_A40 sh_A50 sh_A60 sh_A70 (hA80 _ (by omega)) sh_A90 (hA100 _ (by omega)) sh_A110 (hA120 _ (by omega)) sh_A130 (hA140 _ (by omega)) sh_A150 sh_A160 sh_A170 sh_A180 sh_A190 (hA200 _ (by omega)) sh_A210 (hA220 _ (by omega)) sh_A230 (hA240 _ (by omega)) sh_A250 (hA260 _ (by omega)) sh_A270 sh_A280 sh_A290 sh_A300 (hA310 _ (by omega)) (hA320 _ (by omega)) (hA330 _ (by omega)) (hA340 _ (by omega)) (hA350 _ (by omega)) (hA360 _ (by omega)) sh_A370 sh_A380 sh_A390 sh_A400 (hA410 _ (by omega)) sh_A420 (hA430 _ (by omega)) sh_A440 (hA450 _ (by omega)) sh_A460 (hA470 _ (by omega)) sh_A480 (hA490 _ (by omega)) sh_A500 (hA510 _ (by omega)) sh_A520 (hA530 _ (by omega))
def tabardlaw7_shown.f : Option Bool := some true
theorem tabardlaw7_shown.calls (r : Bool) (w : World) (hT : Tabs w) (h : tabardlaw7_shown.f = some r) : Calls Tryz.prog 4 #[] w fun e w' => e = .returned (.bool r) ∧ Below w.heap.size w w' := by
  obtain rfl := Option.some.inj h
  exact shown_true w hT
end Go.Proofs.YtneeeaafhjaooaaGreatDoor.P

