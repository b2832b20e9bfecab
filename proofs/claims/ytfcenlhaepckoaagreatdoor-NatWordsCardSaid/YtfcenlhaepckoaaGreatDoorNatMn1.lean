import Derived.Test.YtfcenlhaepckoaaGreatDoorProg
import Derived.Test.YtfcenlhaepckoaaGreatDoorP0n1
import Derived.Test.YtfcenlhaepckoaaGreatDoorElibn1
import Derived.Test.YtfcenlhaepckoaaGreatDoorShelfn1
import Derived.Test.YtfcenlhaepckoaaGreatDoorP6n1
import Derived.Test.YtfcenlhaepckoaaGreatDoorNatGn1
import Derived.Test.YtfcenlhaepckoaaGreatDoorNatBn1
import Derived.Test.YtfcenlhaepckoaaGreatDoorNatAn1
import Derived.Test.YtfcenlhaepckoaaGreatDoorNumn1
import Derived.Test.YtfcenlhaepckoaaGreatDoorLibsn1
import Derived.Lib.Strings
import Derived.Lib.Repeat
import Derived.Lib.SlTrimSet
import Derived.Lib.Bytealg
import Derived.Laws.MathBits
import Derived.Lib.Atoi
import Derived.Lib.ItoaNum
namespace Go.Proofs.YtfcenlhaepckoaaGreatDoor.P
set_option linter.all false
set_option linter.unusedSimpArgs false
open Go.RowKit Go.Proofs.YtfcenlhaepckoaaGreatDoorW.PrintWords Go.Proofs.YtfcenlhaepckoaaGreatDoorW.PrintLast Go.Proofs.YtfcenlhaepckoaaGreatDoorW.PrintMore

def digitsR (z : Int) : ByteArray := B (Lib.decDigits z.toNat)
theorem itoa_ev {r : Int} (h0 : 0 ≤ r) (h1 : r < 1000000000) : strconv_Itoa.f (wrap64 r) = some (B (Lib.decDigits r.toNat)) := by
  unfold strconv_Itoa.f
  rw [w64 (by omega) (by omega), if_pos (by omega)]
  unfold Lib.itoa
  rw [if_neg (by omega)]; rfl
theorem repeat_ev {n : Nat} (h : n ≤ 100) : strings_Repeat.f (⟨#[48]⟩ : ByteArray) (n : Int) = some (B (List.replicate n 48)) := by
  have e1 : (⟨#[48]⟩ : ByteArray) = B [48] := rfl
  unfold strings_Repeat.f
  rw [e1, B_data, B_size, repeatL_one, Int.toNat_natCast, if_pos ⟨by omega, by omega, by simp; omega⟩]; rfl
theorem can_nil_iff {z : Int} (h : 0 ≤ z) : can z = [] ↔ z = 0 := by
  constructor
  · intro q
    have := can_val h
    rw [q] at this
    exact this.symm
  · rintro rfl; exact can_zero
theorem can_pos {z : Int} (h : 0 < z) : 0 < (can z).length := by
  rw [List.length_pos_iff]
  intro q
  have := (can_nil_iff (Int.le_of_lt h)).1 q
  omega
/-- What stands behind the digits of a number. -/
def textR (z : Int) (t : List UInt8) : List UInt8 := if z = 0 then t else Lib.decDigits z.toNat ++ t
theorem Digits_loop (M : Nat) (hM : M ≤ 1000000000) : ∀ n (z : Int) (t : List UInt8), z.toNat = n → 0 ≤ z → (can z).length ≤ 1000000 → (textR z t).length ≤ M →
    Ev (fun k => nat_Digits.l0 k (can z) (B t)) (B (textR z t)) := by
  intro n
  induction n using Nat.strongRecOn with
  | ind n ih =>
    intro z t hzn hz hl ht
    by_cases h0 : z = 0
    · subst h0
      refine Ev.step (fun k => by rw [nat_Digits.l0]) ?_
      simp only [can_zero, List.length_nil, if_neg (show ¬ (((0 : Nat) : Int) > 0) by decide), textR, if_true]
      exact Ev.now _
    · have hlen := can_pos (show 0 < z by omega)
      refine Ev.step (fun k => by rw [nat_Digits.l0]) ?_
      simp only [if_pos (show ((can z).length : Int) > 0 by omega)]
      obtain ⟨y, hy, hyl, ly, hyv⟩ := short_ev (can z) 1000000000 (by decide) (by decide) hl (can_Lim z)
      rw [can_val hz] at hy hyv
      refine hy.bind ?_
      simp only [itoa_ev (show 0 ≤ z % 1000000000 by omega) (show z % 1000000000 < 1000000000 by omega), Option.bind_some]
      refine (right_ev y (by omega)).bind ?_
      have htr := tr_length_le y
      simp only [if_pos (show (0 : Int) ≤ ((tr y).length : Int) by omega), if_pos (show ((tr y).length : Int) ≤ ((can z).length : Int) by omega), Option.bind_some, Int.toNat_natCast, tr_take]
      rw [← can_of ly, hyv]
      have hq0 : 0 ≤ z / 1000000000 := by omega
      have hr9 : (z % 1000000000).toNat < 10 ^ 9 := by omega
      obtain ⟨p1, p2⟩ := dd_pad 9 (z % 1000000000).toNat (by decide) hr9
      have hcl : (can (z / 1000000000)).length ≤ 1000000 := by rw [← hyv, can_of ly]; omega
      by_cases hq : z / 1000000000 = 0
      · have hzr : z % 1000000000 = z := by omega
        rw [hq, can_zero, hzr]
        rw [textR, if_neg h0, List.length_append] at ht
        simp only [List.length_nil, if_neg (show ¬ (((0 : Nat) : Int) > 0) by decide), B_size, if_pos (show (Lib.decDigits z.toNat).length + t.length ≤ 9223372036854775807 by omega), B_append]
        have := ih 0 (by omega) 0 (Lib.decDigits z.toNat ++ t) rfl (by decide) (by rw [can_zero]; simp) (by rw [textR, if_pos rfl, List.length_append]; exact ht)
        rw [can_zero] at this
        rw [textR, if_neg h0]
        rw [textR, if_pos rfl] at this
        exact this
      · have hql := can_pos (show 0 < z / 1000000000 by omega)
        have hd9 : ((9 : Int) - (((B (Lib.decDigits (z % 1000000000).toNat)).size : Nat) : Int)) = ((9 - (Lib.decDigits (z % 1000000000).toNat).length : Nat) : Int) := by rw [B_size]; omega
        rw [hd9, w64 (x := ((9 - (Lib.decDigits (z % 1000000000).toNat).length : Nat) : Int)) (by omega) (by omega)]
        simp only [if_pos (show ((can (z / 1000000000)).length : Int) > 0 by omega), repeat_ev (show 9 - (Lib.decDigits (z % 1000000000).toNat).length ≤ 100 by omega), Option.bind_some, B_append, p2, B_size]
        have hj : Lib.decDigits z.toNat = Lib.decDigits (z / 1000000000).toNat ++ padK 9 (z % 1000000000).toNat := by
          rw [← dd_join 9 _ _ (show 0 < (z / 1000000000).toNat by omega) hr9]
          congr 1
          omega
        rw [textR, if_neg h0, hj, List.append_assoc] at ht ⊢
        have hlen9 := padK_length 9 (z % 1000000000).toNat
        rw [List.length_append, List.length_append] at ht
        simp only [List.length_replicate, List.length_append, hlen9]
        simp only [if_pos (show 9 - (Lib.decDigits (z % 1000000000).toNat).length + (Lib.decDigits (z % 1000000000).toNat).length ≤ 9223372036854775807 by omega), if_pos (show 9 + t.length ≤ 9223372036854775807 by omega)]
        have := ih (z / 1000000000).toNat (by omega) (z / 1000000000) (padK 9 (z % 1000000000).toNat ++ t) rfl hq0 hcl (by rw [textR, if_neg hq, List.length_append, List.length_append]; exact ht)
        rw [textR, if_neg hq] at this
        exact this
/-- How many digits a number of so many limbs has. -/
theorem dd_len : ∀ k u, u < 10 ^ (k + 1) → (Lib.decDigits u).length ≤ k + 1 := fun k u h => (dd_pad (k + 1) u (by omega) h).1
theorem PW_dec (n : Nat) : PW n ≤ ((10 ^ (10 * n) : Nat) : Int) := by
  induction n with
  | zero => decide
  | succ n ih =>
    rw [PW_succ, show 10 * (n + 1) = 10 * n + 10 by omega, Nat.pow_add, Int.natCast_mul]
    have := PW_pos n
    have e : (((10 ^ 10 : Nat)) : Int) = 10000000000 := by decide
    rw [e]
    omega
theorem text_len {z : Int} (hz : 0 ≤ z) {n : Nat} (h : z < PW n) : (Lib.decDigits z.toNat).length ≤ 10 * n + 1 := by
  apply dd_len
  have := PW_dec n
  rw [Nat.pow_succ]
  omega
theorem Digits_ev (a : List Int) (la : Lim a) (ha : a.length ≤ 100000) : Ev (fun k => nat_Digits.f k a) (digitsR (val a)) := by
  unfold nat_Digits.f digitsR
  have hz := val_nonneg la
  have hlt := val_lt la
  have h1 := tr_length_le a
  refine (Trim_ev a (by omega)).bind ?_
  rw [← can_of la] at h1 ⊢
  generalize val a = z at *
  by_cases h0 : z = 0
  · subst h0
    simp only [can_zero, List.length_nil, if_pos (show ((0 : Nat) : Int) = 0 from rfl)]
    have : (⟨#[48]⟩ : ByteArray) = B (Lib.decDigits (0 : Int).toNat) := by rw [show (0 : Int).toNat = 0 from rfl, dd_small (by decide)]; rfl
    rw [this]
    exact Ev.now _
  · have hp := can_pos (show 0 < z by omega)
    simp only [if_neg (show ¬ (((can z).length : Int) = 0) by omega)]
    have hle := PW_le ha
    have htl := text_len hz (show z < PW 100000 by omega)
    have := Digits_loop 1000001 (by decide) z.toNat z [] rfl hz (by omega) (by rw [textR, if_neg h0, List.append_nil]; omega)
    rw [textR, if_neg h0, List.append_nil] at this
    exact this

end Go.Proofs.YtfcenlhaepckoaaGreatDoor.P
