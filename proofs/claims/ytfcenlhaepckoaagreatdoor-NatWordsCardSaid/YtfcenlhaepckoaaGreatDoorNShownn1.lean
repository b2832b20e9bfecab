import Derived.Test.YtfcenlhaepckoaaGreatDoorS1n1
import Derived.Test.YtfcenlhaepckoaaGreatDoorProg
import Derived.Test.YtfcenlhaepckoaaGreatDoorP0n1
import Derived.Test.YtfcenlhaepckoaaGreatDoorElibn1
import Derived.Test.YtfcenlhaepckoaaGreatDoorP1n1
import Derived.Test.YtfcenlhaepckoaaGreatDoorP2n1
import Derived.Test.YtfcenlhaepckoaaGreatDoorP3n1
import Derived.Test.YtfcenlhaepckoaaGreatDoorP5n1
import Derived.Test.YtfcenlhaepckoaaGreatDoorP6n1
import Derived.Test.YtfcenlhaepckoaaGreatDoorP7n1
import Derived.Test.YtfcenlhaepckoaaGreatDoorQ1n1
import Derived.Test.YtfcenlhaepckoaaGreatDoorNatOn1
import Derived.Test.YtfcenlhaepckoaaGreatDoorNatNn1
import Derived.Test.YtfcenlhaepckoaaGreatDoorNatMn1
import Derived.Test.YtfcenlhaepckoaaGreatDoorNatKn1
import Derived.Test.YtfcenlhaepckoaaGreatDoorNatJn1
import Derived.Test.YtfcenlhaepckoaaGreatDoorNatIn1
import Derived.Test.YtfcenlhaepckoaaGreatDoorNatFn1
import Derived.Test.YtfcenlhaepckoaaGreatDoorNatEn1
import Derived.Test.YtfcenlhaepckoaaGreatDoorNatDn1
import Derived.Test.YtfcenlhaepckoaaGreatDoorNatCn1
import Derived.Test.YtfcenlhaepckoaaGreatDoorNatBn1
import Derived.Test.YtfcenlhaepckoaaGreatDoorNatAn1
import Derived.Test.YtfcenlhaepckoaaGreatDoorNumn1
import Derived.Test.YtfcenlhaepckoaaGreatDoorLibsn1
import Derived.Lib.Strings
import Derived.Lib.Repeat
import Derived.Lib.SlTrimSet
import Derived.Lib.Bytealg
import Derived.Laws.MathBits
import Derived.Lib.Atoi
import Derived.Lib.ItoaNum
set_option linter.unusedSimpArgs false
set_option linter.unusedVariables false
namespace Go.Proofs.YtfcenlhaepckoaaGreatDoor.P
set_option linter.all false
open Go.RowKit Go.Proofs.YtfcenlhaepckoaaGreatDoorW.PrintWords Go.Proofs.YtfcenlhaepckoaaGreatDoorW.PrintLast Go.Proofs.YtfcenlhaepckoaaGreatDoorW.PrintMore
open Go.Proofs.YtfcenlhaepckoaaGreatDoor.Q

theorem limD (l : List Int) (h : (l.all fun x => decide (0 ≤ x) && decide (x < 4294967296)) = true) : Lim l := by
  intro x hx
  have := List.all_eq_true.1 h x hx
  simpa using this

theorem sh_A10 : Ev (fun k => nat_Trim.f k ([5, 0, 0] : List Int)) ([5] : List Int) := evTo (Trim_ev _ (by decide)) (by decide)
theorem sh_A20 : Ev (fun k => tabardlaw1_same.f k ([5] : List Int) ([5] : List Int)) true := evTo (same_ev _ _ (by decide)) (by decide)
theorem cn0 : can 4294967296 = ([0, 1] : List Int) := can_is (limD _ (by decide)) (by decide) (by decide)
theorem sh_A30 : Ev (fun k => nat_Of.f k 4294967296) ([0, 1] : List Int) := evTo (Of_ev _ (by decide) (by decide)) cn0
theorem sh_A40 : Ev (fun k => tabardlaw1_same.f k ([0, 1] : List Int) ([0, 1] : List Int)) true := evTo (same_ev _ _ (by decide)) (by decide)
theorem cn1 : can 4294967297 = ([1, 1] : List Int) := can_is (limD _ (by decide)) (by decide) (by decide)
theorem sh_A50 : Ev (fun k => nat_Value.f k ([1, 1] : List Int)) (4294967297, true) := evTo (Value_ev _ (by decide) (limD _ (by decide))) (by rw [(show val ([1, 1] : List Int) = 4294967297 from by decide)]; unfold valueR; rw [cn1]; decide)
theorem cn2 : can 18446744073709551616 = ([0, 0, 1] : List Int) := can_is (limD _ (by decide)) (by decide) (by decide)
theorem sh_A60 : Ev (fun k => nat_Value.f k ([0, 0, 1] : List Int)) (0, false) := evTo (Value_ev _ (by decide) (limD _ (by decide))) (by rw [(show val ([0, 0, 1] : List Int) = 18446744073709551616 from by decide)]; unfold valueR; rw [cn2]; decide)
theorem bg0 : big 4294967295 = false := big_is (n := 1) (by decide) (by decide) (by decide)
theorem bg1 : big 1 = false := big_is (n := 1) (by decide) (by decide) (by decide)
theorem bg2 : big 4294967296 = false := big_is (n := 2) (by decide) (by decide) (by decide)
theorem sh_A70 : Ev (fun k => nat_Add.f k ([4294967295] : List Int) ([1] : List Int)) (([0, 1] : List Int), 0) := evTo (Add_ev _ _ (by decide) (by decide) (limD _ (by decide)) (limD _ (by decide))) (by rw [(show val ([4294967295] : List Int) = 4294967295 from by decide), (show val ([1] : List Int) = 1 from by decide)]; unfold addR; rw [bg0, bg1]; simp only [Bool.or_self, Bool.false_eq_true, if_false]; rw [show (4294967295 : Int) + 1 = 4294967296 by decide, fitR_fits bg2, cn0])
theorem cn3 : can 4294967295 = ([4294967295] : List Int) := can_is (limD _ (by decide)) (by decide) (by decide)
theorem sh_A80 : Ev (fun k => nat_Sub.f k ([0, 1] : List Int) ([1] : List Int)) (([4294967295] : List Int), 0) := evTo (Sub_ev _ _ (by decide) (by decide) (limD _ (by decide)) (limD _ (by decide))) (by rw [(show val ([0, 1] : List Int) = 4294967296 from by decide), (show val ([1] : List Int) = 1 from by decide)]; unfold subR; rw [bg2, bg1]; simp only [Bool.or_self, Bool.false_eq_true, if_false]; rw [if_neg (by decide), show (4294967296 : Int) - 1 = 4294967295 by decide, cn3])
theorem bg3 : big 2 = false := big_is (n := 1) (by decide) (by decide) (by decide)
theorem sh_A90 : Ev (fun k => nat_Sub.f k ([1] : List Int) ([2] : List Int)) (([] : List Int), 6) := evTo (Sub_ev _ _ (by decide) (by decide) (limD _ (by decide)) (limD _ (by decide))) (by rw [(show val ([1] : List Int) = 1 from by decide), (show val ([2] : List Int) = 2 from by decide)]; unfold subR; rw [bg1, bg3]; simp only [Bool.or_self, Bool.false_eq_true, if_false]; rw [if_pos (by decide)])
theorem bg4 : big 18446744073709551616 = false := big_is (n := 3) (by decide) (by decide) (by decide)
theorem sh_A100 : Ev (fun k => nat_Mul.f k ([0, 1] : List Int) ([0, 1] : List Int)) (([0, 0, 1] : List Int), 0) := evTo (Mul_ev _ _ (by decide) (by decide) (limD _ (by decide)) (limD _ (by decide))) (by rw [(show val ([0, 1] : List Int) = 4294967296 from by decide)]; unfold mulR; rw [bg2]; simp only [Bool.or_self, Bool.false_eq_true, if_false]; rw [show (4294967296 : Int) * 4294967296 = 18446744073709551616 by decide, fitR_fits bg4, cn2])
theorem bg5 : big 7 = false := big_is (n := 1) (by decide) (by decide) (by decide)
theorem cn4 : can 2 = ([2] : List Int) := can_is (limD _ (by decide)) (by decide) (by decide)
theorem cn5 : can 3 = ([3] : List Int) := can_is (limD _ (by decide)) (by decide) (by decide)
theorem cn6 : can 1 = ([1] : List Int) := can_is (limD _ (by decide)) (by decide) (by decide)
theorem sh_A110 : Ev (fun k => nat_DivMod.f k ([7] : List Int) ([2] : List Int)) (([3] : List Int), ([1] : List Int), 0) := evTo (DivMod_ev _ _ (by decide) (by decide) (limD _ (by decide)) (limD _ (by decide)) (fun h => absurd h (by rw [(show val ([2] : List Int) = 2 from by decide), cn4]; decide))) (by rw [(show val ([7] : List Int) = 7 from by decide), (show val ([2] : List Int) = 2 from by decide)]; unfold divR; rw [bg5, bg3]; simp only [Bool.or_self, Bool.false_eq_true, if_false]; rw [if_neg (by decide), show (7 : Int) / 2 = 3 by decide, show (7 : Int) % 2 = 1 by decide, cn5, cn6])
theorem bg6 : big 0 = false := big_is (n := 1) (by decide) (by decide) (by decide)
theorem cn7 : can 0 = ([] : List Int) := can_is (limD _ (by decide)) (by decide) (by decide)
theorem sh_A120 : Ev (fun k => nat_DivMod.f k ([1] : List Int) ([] : List Int)) (([] : List Int), ([] : List Int), 10) := evTo (DivMod_ev _ _ (by decide) (by decide) (limD _ (by decide)) (limD _ (by decide)) (fun h => absurd h (by rw [(show val ([] : List Int) = 0 from by decide), cn7]; decide))) (by rw [(show val ([1] : List Int) = 1 from by decide), (show val ([] : List Int) = 0 from by decide)]; unfold divR; rw [bg1, bg6]; simp only [Bool.or_self, Bool.false_eq_true, if_false]; simp only [if_true])
theorem sh_A130 : Ev (fun k => tabardlaw1_same.f k ([0, 1] : List Int) ([0, 1] : List Int)) true := evTo (same_ev _ _ (by decide)) (by decide)
theorem sh_A140 : Ev (fun k => tabardlaw1_same.f k ([4294967295] : List Int) ([4294967295] : List Int)) true := evTo (same_ev _ _ (by decide)) (by decide)
theorem sh_A150 : Ev (fun k => tabardlaw1_same.f k ([0, 0, 1] : List Int) ([0, 0, 1] : List Int)) true := evTo (same_ev _ _ (by decide)) (by decide)
theorem sh_A160 : Ev (fun k => tabardlaw1_same.f k ([3] : List Int) ([3] : List Int)) true := evTo (same_ev _ _ (by decide)) (by decide)
theorem sh_A170 : Ev (fun k => tabardlaw1_same.f k ([1] : List Int) ([1] : List Int)) true := evTo (same_ev _ _ (by decide)) (by decide)
theorem sh_A180 : Ev (fun k => nat_Len.f k ([0, 1] : List Int)) 33 := evTo (Len_ev _ (by decide) (limD _ (by decide))) (by rw [(show val ([0, 1] : List Int) = 4294967296 from by decide)]; unfold lenR; rw [cn0]; decide)
theorem cn8 : can 8589934592 = ([0, 2] : List Int) := can_is (limD _ (by decide)) (by decide) (by decide)
theorem sh_A190 : Ev (fun k => nat_Shl.f k ([1] : List Int) 33) (([0, 2] : List Int), 0) := evTo (Shl_ev _ _ (limD _ (by decide)) (by decide) (by decide)) (by rw [(show val ([1] : List Int) = 1 from by decide)]; unfold shlR; rw [if_neg (by decide), bg1]; simp only [Bool.false_eq_true, if_false]; rw [if_neg (by rw [cn6]; decide), if_neg (by unfold lenR; rw [cn6]; decide), show (1 : Int) * PW ((33 : Int).toNat / 32) * 2 ^ ((33 : Int).toNat % 32) = 8589934592 by decide, cn8])
theorem sh_A200 : Ev (fun k => nat_Shr.f k ([0, 1] : List Int) 33) (([] : List Int), true, 0) := evTo (Shr_ev _ _ (limD _ (by decide)) (by decide) (by decide)) (by rw [(show val ([0, 1] : List Int) = 4294967296 from by decide)]; unfold shrR; rw [if_neg (by decide), bg2]; simp only [Bool.false_eq_true, if_false]; rw [show (4294967296 : Int) / 2 ^ (33 : Int).toNat = 0 by decide, cn7]; decide)
theorem sh_A210 : Ev (fun k => nat_Shl.f k ([1] : List Int) 8192) (([] : List Int), 2) := evTo (Shl_ev _ _ (limD _ (by decide)) (by decide) (by decide)) (by rw [(show val ([1] : List Int) = 1 from by decide)]; unfold shlR; rw [if_neg (by decide), bg1]; simp only [Bool.false_eq_true, if_false]; rw [if_neg (by rw [cn6]; decide), if_pos (.inr (by unfold lenR; rw [cn6]; decide))])
theorem sh_A220 : Ev (fun k => nat_Shl.f k ([] : List Int) 8192) (([] : List Int), 0) := evTo (Shl_ev _ _ (limD _ (by decide)) (by decide) (by decide)) (by rw [(show val ([] : List Int) = 0 from by decide)]; unfold shlR; rw [if_neg (by decide), bg6]; simp only [Bool.false_eq_true, if_false]; rw [if_pos cn7])
theorem cn9 : can 10000000000 = ([1410065408, 2] : List Int) := can_is (limD _ (by decide)) (by decide) (by decide)
theorem bg7 : big 10000000000 = false := big_is (n := 2) (by decide) (by decide) (by decide)
theorem sh_A230 : Ev (fun k => nat_Pow.f k 10 10) (([1410065408, 2] : List Int), 0) := evTo (Pow_ev _ _ (by decide)) (by rw [powR_eq (by decide) (by decide) (by decide), show (10 : Int) ^ (10 : Int).toNat = 10000000000 by decide, fitR_fits bg7, cn9])
theorem sh_A240 : Ev (fun k => nat_Pow.f k 0 0) (([1] : List Int), 0) := evTo (Pow_ev _ _ (by decide)) (by decide)
theorem sh_A250 : Ev (fun k => nat_Pow.f k 2 8192) (([] : List Int), 2) := evTo (Pow_ev _ _ (by decide)) ((powR_eq (by decide) (by decide) (by decide)).trans (fitR_big ((big_iff (Int.le_of_lt (pow2_pos _))).2 (by rw [PW_two]; exact Int.le_refl _))))
theorem sh_A260 : Ev (fun k => tabardlaw1_same.f k ([0, 2] : List Int) ([0, 2] : List Int)) true := evTo (same_ev _ _ (by decide)) (by decide)
theorem sh_A270 : Ev (fun k => tabardlaw1_same.f k ([1410065408, 2] : List Int) ([1410065408, 2] : List Int)) true := evTo (same_ev _ _ (by decide)) (by decide)
theorem sh_A280 : Ev (fun k => tabardlaw1_same.f k ([1] : List Int) ([1] : List Int)) true := evTo (same_ev _ _ (by decide)) (by decide)
theorem cn10 : can 7 = ([7] : List Int) := can_is (limD _ (by decide)) (by decide) (by decide)
theorem sh_A290 : Ev (fun k => nat_Parse.f k (⟨#[48, 48, 55]⟩ : ByteArray)) (([7] : List Int), 0) := evTo (Parse_ev [48, 48, 55] (by decide)) (by unfold parseR; rw [if_neg (by decide), show ((natL [48, 48, 55] : Nat) : Int) = 7 by decide, fitR_fits bg5, cn10])
theorem sh_A300 : Ev (fun k => nat_Parse.f k (⟨#[45, 49]⟩ : ByteArray)) (([] : List Int), 3) := evTo (Parse_ev [45, 49] (by decide)) (by unfold parseR; rw [if_pos (by decide)])
theorem sh_A310 : Ev (fun k => tabardlaw1_same.f k ([7] : List Int) ([7] : List Int)) true := evTo (same_ev _ _ (by decide)) (by decide)
theorem sh_A370 : Ev (fun k => nat_Digits.f k ([0, 1] : List Int)) (⟨#[52, 50, 57, 52, 57, 54, 55, 50, 57, 54]⟩ : ByteArray) := evTo (Digits_ev _ (limD _ (by decide)) (by decide)) (by rw [(show val ([0, 1] : List Int) = 4294967296 from by decide)]; unfold digitsR; rw [show (4294967296 : Int).toNat = 4294967296 from rfl, ← ddF_eq 11 4294967296 (by decide) (by decide)]; decide)
theorem shown_true (w : World) (hT : Tabs w) : Calls Tryz.prog 7 #[] w fun e w' => e = .returned (.bool true) ∧ Below w.heap.size w w' := by
  obtain ⟨KA10, hA10⟩ := sh_A10
  obtain ⟨KA20, hA20⟩ := sh_A20
  obtain ⟨KA30, hA30⟩ := sh_A30
  obtain ⟨KA40, hA40⟩ := sh_A40
  obtain ⟨KA50, hA50⟩ := sh_A50
  obtain ⟨KA60, hA60⟩ := sh_A60
  obtain ⟨KA70, hA70⟩ := sh_A70
  obtain ⟨KA80, hA80⟩ := sh_A80
  obtain ⟨KA90, hA90⟩ := sh_A90
  obtain ⟨KA100, hA100⟩ := sh_A100
  obtain ⟨KA110, hA110⟩ := sh_A110
  obtain ⟨KA120, hA120⟩ := sh_A120
  obtain ⟨KA130, hA130⟩ := sh_A130
  obtain ⟨KA140, hA140⟩ := sh_A140
  obtain ⟨KA150, hA150⟩ := sh_A150
  obtain ⟨KA160, hA160⟩ := sh_A160
  obtain ⟨KA170, hA170⟩ := sh_A170
  obtain ⟨KA180, hA180⟩ := sh_A180
  obtain ⟨KA190, hA190⟩ := sh_A190
  obtain ⟨KA200, hA200⟩ := sh_A200
  obtain ⟨KA210, hA210⟩ := sh_A210
  obtain ⟨KA220, hA220⟩ := sh_A220
  obtain ⟨KA230, hA230⟩ := sh_A230
  obtain ⟨KA240, hA240⟩ := sh_A240
  obtain ⟨KA250, hA250⟩ := sh_A250
  obtain ⟨KA260, hA260⟩ := sh_A260
  obtain ⟨KA270, hA270⟩ := sh_A270
  obtain ⟨KA280, hA280⟩ := sh_A280
  obtain ⟨KA290, hA290⟩ := sh_A290
  obtain ⟨KA300, hA300⟩ := sh_A300
  obtain ⟨KA310, hA310⟩ := sh_A310
  obtain ⟨KA370, hA370⟩ := sh_A370
  exact S.tabardlaw1_shown.calls (KA10 + KA20 + KA30 + KA40 + KA50 + KA60 + KA70 + KA80 + KA90 + KA100 + KA110 + KA120 + KA130 + KA140 + KA150 + KA160 + KA170 + KA180 + KA190 + KA200 + KA210 + KA220 + KA230 + KA240 + KA250 + KA260 + KA270 + KA280 + KA290 + KA300 + KA310 + KA370) true w hT rfl ([5] : List Int) (hA10 _ (by omega)) (hA20 _ (by omega)) ([0, 1] : List Int) (hA30 _ (by omega)) (hA40 _ (by omega)) (hA50 _ (by omega)) (hA60 _ (by omega)) ([0, 1] : List Int) (hA70 _ (by omega)) ([4294967295] : List Int) (hA80 _ (by omega)) ([] : List Int) (hA90 _ (by omega)) ([0, 0, 1] : List Int) (hA100 _ (by omega)) ([3] : List Int) ([1] : List Int) (hA110 _ (by omega)) ([] : List Int) ([] : List Int) (hA120 _ (by omega)) (hA130 _ (by omega)) (hA140 _ (by omega)) (hA150 _ (by omega)) (hA160 _ (by omega)) (hA170 _ (by omega)) (hA180 _ (by omega)) ([0, 2] : List Int) (hA190 _ (by omega)) ([] : List Int) (hA200 _ (by omega)) ([] : List Int) (hA210 _ (by omega)) ([] : List Int) (hA220 _ (by omega)) ([1410065408, 2] : List Int) (hA230 _ (by omega)) ([1] : List Int) (hA240 _ (by omega)) ([] : List Int) (hA250 _ (by omega)) (hA260 _ (by omega)) (hA270 _ (by omega)) (hA280 _ (by omega)) ([7] : List Int) (hA290 _ (by omega)) ([] : List Int) (hA300 _ (by omega)) (hA310 _ (by omega)) rfl rfl rfl rfl rfl (hA370 _ (by omega))
def tabardlaw1_shown.f : Option Bool := some true
theorem tabardlaw1_shown.calls (r : Bool) (w : World) (hT : Tabs w) (h : tabardlaw1_shown.f = some r) : Calls Tryz.prog 7 #[] w fun e w' => e = .returned (.bool r) ∧ Below w.heap.size w w' := by
  obtain rfl := Option.some.inj h
  exact shown_true w hT
end Go.Proofs.YtfcenlhaepckoaaGreatDoor.P

