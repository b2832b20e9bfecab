import Derived.Test.YtfcenlhaepckoaaGreatDoorNatEn1
import Derived.Test.YtfcenlhaepckoaaGreatDoorNatDn1
import Derived.Test.YtfcenlhaepckoaaGreatDoorNatCn1
import Derived.Test.YtfcenlhaepckoaaGreatDoorNatBn1
import Derived.Test.YtfcenlhaepckoaaGreatDoorP0n1
import Derived.Test.YtfcenlhaepckoaaGreatDoorProg
import Derived.Test.YtfcenlhaepckoaaGreatDoorP6n1
import Derived.Test.YtfcenlhaepckoaaGreatDoorNatAn1
import Derived.Test.YtfcenlhaepckoaaGreatDoorLibsn1
import Derived.Lib.Strings
import Derived.Lib.Repeat
import Derived.Lib.SlTrimSet
import Derived.Lib.Bytealg
import Derived.Laws.MathBits
namespace Go.Proofs.YtfcenlhaepckoaaGreatDoor.P
set_option linter.all false
set_option linter.unusedSimpArgs false
open Go.RowKit Go.Proofs.YtfcenlhaepckoaaGreatDoorW.PrintWords Go.Proofs.YtfcenlhaepckoaaGreatDoorW.PrintLast Go.Proofs.YtfcenlhaepckoaaGreatDoorW.PrintMore

def powL (b : Int) : Nat → Int → List Int × Int
  | 0, z => (can z, 0)
  | d + 1, z => if big (z * b) = true then ([], 2) else powL b d (z * b)
def powR (b n : Int) : List Int × Int :=
  if b < 0 ∨ b > 1000000 ∨ n < 0 then ([], 1) else if b = 0 ∧ n > 0 then ([], 0) else if b ≤ 1 then ([1], 0) else powL b n.toNat 1
theorem not_big_len {z : Int} (h : big z = false) : (can z).length ≤ 256 := by
  unfold big at h; simpa using h
theorem small_not_big {z : Int} (h0 : 0 ≤ z) (h1 : z < 4294967296) : big z = false := by
  unfold big
  have := can_short h0 (n := 1) (by show z < PW 1; rw [show PW 1 = 4294967296 by decide]; exact h1)
  simp; omega
theorem Pow_loop (b : Int) (hb : 2 ≤ b) (hb2 : b ≤ 1000000) (n : Nat) (hn : n ≤ 9223372036854775807) : ∀ d i z, i + d = n → 0 ≤ z → big z = false → Ev (fun k => nat_Pow.l0 k b (can z) (n : Int) (i : Int)) (powL b d z) := by
  intro d
  induction d with
  | zero =>
    intro i z hi hz hbz
    refine Ev.step (fun k => by rw [nat_Pow.l0]) ?_
    simp only [if_neg (show ¬ ((i : Int) < (n : Int)) by omega)]
    exact Ev.now _
  | succ d ih =>
    intro i z hi hz hbz
    refine Ev.step (fun k => by rw [nat_Pow.l0]) ?_
    simp only [if_pos (show ((i : Int) < (n : Int)) by omega), u64w (show 0 ≤ b by omega) (show b < 18446744073709551616 by omega)]
    refine (Of_ev b (by omega) (by omega)).bind ?_
    have hbb := small_not_big (show 0 ≤ b by omega) (show b < 4294967296 by omega)
    have hm := Mul_ev (can z) (can b) (by have := not_big_len hbz; omega) (by have := not_big_len hbb; omega) (can_Lim _) (can_Lim _)
    rw [can_val hz, can_val (show 0 ≤ b by omega)] at hm
    unfold mulR fitR at hm
    rw [hbz, hbb] at hm
    simp only [Bool.or_false, Bool.false_eq_true, if_false] at hm
    refine hm.bind ?_
    rw [powL]
    cases hbig : big (z * b) with
    | true => simp only [if_true, if_neg (show ¬ ((2 : Int) = 0) by decide)]; exact Ev.now _
    | false =>
      simp only [Bool.false_eq_true, if_false, if_true]
      rw [show wrap64 ((i : Int) + 1) = ((i + 1 : Nat) : Int) by rw [w64 (by omega) (by omega)]; rfl]
      exact ih (i + 1) (z * b) (by omega) (Int.mul_nonneg hz (by omega)) hbig
theorem can_one : can 1 = [1] := by
  have := can_of (Lim.one (show (0 : Int) ≤ 1 by decide) (by decide))
  rw [val_one] at this
  rw [this]; rfl
theorem Pow_ev (b n : Int) (hn : n ≤ 9223372036854775807) : Ev (fun k => nat_Pow.f k b n) (powR b n) := by
  have bad : ∀ b n, Ev (fun k => nat_Pow.j0 k b n true) (([] : List Int), (1 : Int)) := by
    intro b n
    refine Ev.step (fun k => by rw [nat_Pow.j0]) ?_
    simp only [if_true]; exact Ev.now _
  unfold nat_Pow.f powR
  by_cases c1 : b < 0
  · simp only [if_pos c1, c1, true_or, if_true]; exact bad _ _
  · by_cases c2 : b > 1000000
    · simp only [if_neg c1, if_pos c2, c2, true_or, or_true, if_true]; exact bad _ _
    · by_cases c3 : n < 0
      · simp only [if_neg c1, if_neg c2, c3, or_true, if_true, decide_true]; exact bad _ _
      · simp only [if_neg c1, if_neg c2, decide_eq_false c3, if_neg (show ¬ (b < 0 ∨ b > 1000000 ∨ n < 0) by omega)]
        refine Ev.step (fun k => by rw [nat_Pow.j0]) ?_
        simp only [Bool.false_eq_true, if_false, Option.bind_some]
        have big1 : big 1 = false := small_not_big (by decide) (by decide)
        by_cases c4 : b = 0
        · subst c4
          simp only [if_true, true_and]
          refine Ev.step (fun k => by rw [nat_Pow.j1]) ?_
          by_cases c5 : n > 0
          · simp only [c5, decide_true, if_true]; exact Ev.now _
          · simp only [decide_eq_false c5, Bool.false_eq_true, if_false, if_neg c5, if_pos (show (0 : Int) ≤ 1 by decide)]; exact Ev.now _
        · simp only [if_neg c4, if_neg (show ¬ (b = 0 ∧ n > 0) from fun h => c4 h.1)]
          refine Ev.step (fun k => by rw [nat_Pow.j1]) ?_
          simp only [Bool.false_eq_true, if_false]
          by_cases c5 : b ≤ 1
          · simp only [if_pos c5]; exact Ev.now _
          · simp only [if_neg c5]
            have := Pow_loop b (by omega) (by omega) n.toNat (by omega) n.toNat 0 1 (by omega) (by decide) big1
            rw [can_one, Int.toNat_of_nonneg (by omega)] at this
            exact this
end Go.Proofs.YtfcenlhaepckoaaGreatDoor.P
