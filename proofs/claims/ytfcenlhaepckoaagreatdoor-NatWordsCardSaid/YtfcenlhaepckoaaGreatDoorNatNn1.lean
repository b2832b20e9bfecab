import Derived.Test.YtfcenlhaepckoaaGreatDoorProg
import Derived.Test.YtfcenlhaepckoaaGreatDoorP0n1
import Derived.Test.YtfcenlhaepckoaaGreatDoorElibn1
import Derived.Test.YtfcenlhaepckoaaGreatDoorShelfn1
import Derived.Test.YtfcenlhaepckoaaGreatDoorP6n1
import Derived.Test.YtfcenlhaepckoaaGreatDoorNatFn1
import Derived.Test.YtfcenlhaepckoaaGreatDoorNatEn1
import Derived.Test.YtfcenlhaepckoaaGreatDoorNatDn1
import Derived.Test.YtfcenlhaepckoaaGreatDoorNatCn1
import Derived.Test.YtfcenlhaepckoaaGreatDoorNatBn1
import Derived.Test.YtfcenlhaepckoaaGreatDoorNatAn1
import Derived.Test.YtfcenlhaepckoaaGreatDoorNumn1
import Derived.Test.YtfcenlhaepckoaaGreatDoorLibsn1
import Derived.Lib.Strings
import Derived.Lib.Repeat
import Derived.Lib.SlTrimSet
import Derived.Lib.Bytealg
import Derived.Laws.MathBits
import Derived.Lib.Atoi
import Derived.Lib.ItoaNum
namespace Go.Proofs.YtfcenlhaepckoaaGreatDoor.P
set_option linter.all false
set_option linter.unusedSimpArgs false
open Go.RowKit Go.Proofs.YtfcenlhaepckoaaGreatDoorW.PrintWords Go.Proofs.YtfcenlhaepckoaaGreatDoorW.PrintLast Go.Proofs.YtfcenlhaepckoaaGreatDoorW.PrintMore

def parseR (l : List UInt8) : List Int × Int := if l = [] ∨ l.all isDig = false then ([], 3) else fitR (natL l : Int)
theorem big_mono {x y : Int} (hx : 0 ≤ x) (h : x ≤ y) (hb : big x = true) : big y = true := by
  rw [big_iff (by omega)]
  rw [big_iff hx] at hb
  omega
theorem fitR_big {z : Int} (h : big z = true) : fitR z = ([], 2) := by unfold fitR; rw [if_pos h]
theorem fitR_fits {z : Int} (h : big z = false) : fitR z = (can z, 0) := by unfold fitR; rw [h]; rfl
theorem big_small {z : Int} (h0 : 0 ≤ z) (h : z < PW 256) : big z = false := by
  rw [Bool.eq_false_iff]
  intro q
  rw [big_iff h0] at q
  omega
theorem fits_len {z : Int} (h : big z = false) : (can z).length ≤ 100000 := by have := not_big_len h; omega
theorem pow10_small {n : Nat} (h : n ≤ 9) : (0 : Int) < 10 ^ n ∧ (10 : Int) ^ n ≤ 1000000000 := by
  have : n = 0 ∨ n = 1 ∨ n = 2 ∨ n = 3 ∨ n = 4 ∨ n = 5 ∨ n = 6 ∨ n = 7 ∨ n = 8 ∨ n = 9 := by omega
  rcases this with rfl | rfl | rfl | rfl | rfl | rfl | rfl | rfl | rfl | rfl <;> decide
theorem big_billion {z : Int} (h0 : 0 ≤ z) (h : z ≤ 4294967295) : big z = false := by
  apply big_small h0
  have := PW_le (show 1 ≤ 256 by decide)
  rw [show PW 1 = 4294967296 from rfl] at this
  omega
theorem pow_ge_one {b : Int} (hb : 1 ≤ b) (d : Nat) : 1 ≤ b ^ d := by
  induction d with
  | zero => simp
  | succ d ih =>
    rw [Int.pow_succ]
    have := Int.mul_le_mul_of_nonneg_left hb (show 0 ≤ b ^ d by omega)
    omega
theorem powL_eq {b : Int} (hb : 1 ≤ b) : ∀ d z, 0 ≤ z → big z = false → powL b d z = fitR (z * b ^ d) := by
  intro d
  induction d with
  | zero => intro z _ hbz; rw [powL, Int.pow_zero, Int.mul_one, fitR_fits hbz]
  | succ d ih =>
    intro z hz hbz
    have hzb : 0 ≤ z * b := Int.mul_nonneg hz (by omega)
    have e : z * b ^ (d + 1) = z * b * b ^ d := by rw [Int.pow_succ]; grind
    rw [powL, e]
    cases hbig : big (z * b) with
    | true =>
      rw [if_pos rfl, fitR_big (big_mono hzb _ hbig)]
      have := Int.mul_le_mul_of_nonneg_left (pow_ge_one hb d) hzb
      omega
    | false => rw [if_neg (by decide), ih _ hzb hbig]
theorem powR_eq {b n : Int} (hb : 2 ≤ b) (hb2 : b ≤ 1000000) (hn : 0 ≤ n) : powR b n = fitR (b ^ n.toNat) := by
  unfold powR
  rw [if_neg (by omega), if_neg (by omega), if_neg (by omega), powL_eq (by omega) _ 1 (by decide) (big_billion (by decide) (by decide)), Int.one_mul]
theorem Parse_loop : ∀ m (l : List UInt8) (z : Int), l.length = m → m ≤ 3000 → l.all isDig = true → 0 ≤ z → big z = false →
    Ev (fun k => nat_Parse.l0 k (B l) (can z)) (fitR (z * ((10 ^ l.length : Nat) : Int) + (natL l : Int))) := by
  intro m
  induction m using Nat.strongRecOn with
  | ind m ih =>
    intro l z hm hm2 hd hz hb
    refine Ev.step (fun k => by rw [nat_Parse.l0]) ?_
    by_cases h0 : l.length = 0
    · have : l = [] := List.length_eq_zero_iff.1 h0
      subst this
      simp only [B_size, List.length_nil, if_neg (show ¬ (((0 : Nat) : Int) > 0) by decide), Nat.pow_zero, natL, natFrom, List.foldl_nil]
      rw [show z * ((1 : Nat) : Int) + ((0 : Nat) : Int) = z by omega, fitR_fits hb]
      exact Ev.now _
    · have hn : mn 9 (l.length : Int) = ((min 9 l.length : Nat) : Int) := by unfold mn; split <;> omega
      generalize hN : min 9 l.length = n at hn
      have hn1 : 1 ≤ n := by omega
      have hn9 : n ≤ 9 := by omega
      have hnl : n ≤ l.length := by omega
      have htk : (l.take n).length = n := by rw [List.length_take]; omega
      have htn : l.take n ≠ [] := by intro q; rw [q] at htk; simp at htk; omega
      have hat : strconv_Atoi.f (B (l.take n)) = some ((natL (l.take n) : Int), none) := by
        unfold strconv_Atoi.f
        rw [B_size, htk, if_pos (by omega), B_data, atoi_digits _ (take_all hd n) htn]; rfl
      have hvl := natL_lt (take_all hd n)
      rw [htk] at hvl
      have hp := pow10_small hn9
      have hpn : (((10 ^ n : Nat)) : Int) = (10 : Int) ^ n := by simp
      simp only [B_size, if_pos (show (l.length : Int) > 0 by omega), hn, if_pos (show (0 : Int) ≤ (n : Int) by omega), if_pos (show (n : Int) ≤ (l.length : Int) by omega), Int.toNat_natCast, B_extract, List.drop_zero, hat, Option.bind_some, List.take_length]
      have hpow := Pow_ev 10 (n : Int) (by omega)
      have hpr : powR 10 (n : Int) = (can (10 ^ n), 0) := by
        rw [powR_eq (by decide) (by decide) (by omega), Int.toNat_natCast, fitR_fits (big_billion (z := 10 ^ n) (by omega) (by omega))]
      rw [hpr] at hpow
      refine hpow.bind ?_
      have bp : big (10 ^ n) = false := big_billion (by omega) (by omega)
      have hmul := Mul_ev (can z) (can (10 ^ n)) (fits_len hb) (fits_len bp) (can_Lim _) (can_Lim _)
      rw [can_val hz, can_val (by omega)] at hmul
      unfold mulR at hmul
      rw [hb, bp] at hmul
      simp only [Bool.or_self, Bool.false_eq_true, if_false] at hmul
      refine hmul.bind ?_
      have hz1 : 0 ≤ z * 10 ^ n := Int.mul_nonneg hz (by omega)
      -- what is left
      have hrest : z * ((10 ^ l.length : Nat) : Int) + (natL l : Int) = (z * 10 ^ n + (natL (l.take n) : Int)) * ((10 ^ (l.drop n).length : Nat) : Int) + (natL (l.drop n) : Int) := by
        have e := natL_append (l.take n) (l.drop n)
        rw [List.take_append_drop] at e
        have e2 : (10 : Nat) ^ l.length = 10 ^ n * 10 ^ (l.drop n).length := by rw [← Nat.pow_add, List.length_drop]; congr 1; omega
        rw [e, e2, Int.natCast_add, Int.natCast_mul, Int.natCast_mul, hpn]
        grind
      have hge : z * 10 ^ n + (natL (l.take n) : Int) ≤ z * ((10 ^ l.length : Nat) : Int) + (natL l : Int) := by
        rw [hrest]
        have h1 : (1 : Int) ≤ ((10 ^ (l.drop n).length : Nat) : Int) := by have : 0 < 10 ^ (l.drop n).length := Nat.pow_pos (by decide); omega
        have := Int.mul_le_mul_of_nonneg_left h1 (show 0 ≤ z * 10 ^ n + (natL (l.take n) : Int) by omega)
        omega
      cases hb1 : big (z * 10 ^ n) with
      | true =>
        rw [fitR_big hb1, fitR_big (big_mono hz1 (by omega) hb1)]
        simp only [if_neg (show ¬ ((2 : Int) = 0) by decide)]
        exact Ev.now _
      | false =>
        rw [fitR_fits hb1]
        simp only [if_true]
        have hvl2 : (natL (l.take n) : Int) < 1000000000 := by omega
        have hof := Of_ev (natL (l.take n) : Int) (by omega) (by omega)
        rw [u64w (by omega) (by omega)]
        refine hof.bind ?_
        have bv : big (natL (l.take n) : Int) = false := big_billion (by omega) (by omega)
        have hadd := Add_ev (can (z * 10 ^ n)) (can (natL (l.take n) : Int)) (fits_len hb1) (fits_len bv) (can_Lim _) (can_Lim _)
        rw [can_val hz1, can_val (by omega)] at hadd
        unfold addR at hadd
        rw [hb1, bv] at hadd
        simp only [Bool.or_self, Bool.false_eq_true, if_false] at hadd
        refine hadd.bind ?_
        cases hb2 : big (z * 10 ^ n + (natL (l.take n) : Int)) with
        | true =>
          rw [fitR_big hb2, fitR_big (big_mono (by omega) hge hb2)]
          simp only [if_neg (show ¬ ((2 : Int) = 0) by decide)]
          exact Ev.now _
        | false =>
          rw [fitR_fits hb2]
          simp only [if_true]
          have := ih (l.drop n).length (by rw [List.length_drop]; omega) (l.drop n) (z * 10 ^ n + (natL (l.take n) : Int)) rfl (by rw [List.length_drop]; omega) (drop_all hd n) (by omega) hb2
          rw [← hrest] at this
          exact this
theorem Parse_ev (l : List UInt8) (hl : l.length ≤ 3000) : Ev (fun k => nat_Parse.f k (B l)) (parseR l) := by
  unfold nat_Parse.f parseR
  rw [B_toList]
  have bad : Ev (fun k => nat_Parse.j0 k (B l) true) (([] : List Int), (3 : Int)) := by
    refine Ev.step (fun k => by rw [nat_Parse.j0]) ?_
    simp only [if_true]; exact Ev.now _
  by_cases h0 : l = []
  · simp only [if_pos h0, h0, true_or, if_true]
    rw [h0] at bad
    exact bad
  · simp only [if_neg h0]
    have e1 : (⟨#[48, 49, 50, 51, 52, 53, 54, 55, 56, 57]⟩ : ByteArray) = B [48, 49, 50, 51, 52, 53, 54, 55, 56, 57] := rfl
    have hasc : asciiB (B [48, 49, 50, 51, 52, 53, 54, 55, 56, 57]) = true := by rw [asciiB, B_data]; decide
    have ht : strings_Trim.f (B l) (⟨#[48, 49, 50, 51, 52, 53, 54, 55, 56, 57]⟩ : ByteArray) = some (B (Lib.trimS l [48, 49, 50, 51, 52, 53, 54, 55, 56, 57])) := by
      unfold strings_Trim.f
      rw [e1, B_data, B_data, if_pos ⟨by rw [B_size]; omega, hasc, by rw [B_size]; decide⟩]; rfl
    simp only [ht, Option.bind_some, B_toList]
    have hd := trimS_digits l
    cases hall : l.all isDig with
    | false =>
      have : Lib.trimS l [48, 49, 50, 51, 52, 53, 54, 55, 56, 57] ≠ [] := fun q => by have := hd.1 q; rw [hall] at this; cases this
      rw [bne_iff_ne.2 this]
      simp only [or_true, if_true]
      exact bad
    | true =>
      rw [hd.2 hall]
      have : ((([] : List UInt8)) != []) = false := rfl
      rw [this]
      simp only [h0, Bool.true_eq_false, or_self, if_false]
      refine Ev.step (fun k => by rw [nat_Parse.j0]) ?_
      have e2 : (⟨#[48]⟩ : ByteArray) = B [48] := rfl
      have ht2 : strings_TrimLeft.f (B l) (⟨#[48]⟩ : ByteArray) = some (B (trimL l)) := by
        unfold strings_TrimLeft.f
        rw [e2, B_data, B_data, trimLeftS_48, if_pos ⟨by rw [asciiB, B_data]; decide, by rw [B_size]; decide⟩]; rfl
      have htl := trimL_len l
      simp only [Bool.false_eq_true, if_false, ht2, Option.bind_some, B_size, if_neg (show ¬ (((trimL l).length : Int) > 3000) by omega)]
      have := Parse_loop (trimL l).length (trimL l) 0 rfl (by omega) (trimL_all hall) (Int.le_refl 0) (big_billion (by decide) (by decide))
      rw [can_zero, Int.zero_mul, Int.zero_add, natL_trimL] at this
      exact this

end Go.Proofs.YtfcenlhaepckoaaGreatDoor.P
