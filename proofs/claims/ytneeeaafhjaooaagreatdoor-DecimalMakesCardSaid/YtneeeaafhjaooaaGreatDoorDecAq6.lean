import Derived.Test.YtneeeaafhjaooaaGreatDoorP0q6
import Derived.Test.YtneeeaafhjaooaaGreatDoorProg
import Derived.Test.YtneeeaafhjaooaaGreatDoorEplainq6
import Derived.Test.YtneeeaafhjaooaaGreatDoorBq6
import Derived.Test.YtneeeaafhjaooaaGreatDoorElibq6
import Derived.Test.YtneeeaafhjaooaaGreatDoorShelfq6
import Derived.Test.YtneeeaafhjaooaaGreatDoorP1q6
import Derived.Test.YtneeeaafhjaooaaGreatDoorP2q6
import Derived.Test.YtneeeaafhjaooaaGreatDoorP7q6
import Derived.Test.YtneeeaafhjaooaaGreatDoorP10q6
import Derived.Test.YtneeeaafhjaooaaGreatDoorLibsq6
namespace Go.Proofs.YtneeeaafhjaooaaGreatDoor.P
set_option linter.all false
open Go.RowKit Go.Proofs.YtneeeaafhjaooaaGreatDoorW.PrintWords Go.Proofs.YtneeeaafhjaooaaGreatDoorW.PrintLast Go.Proofs.YtneeeaafhjaooaaGreatDoorW.PrintMore

def rightL (l : List UInt8) (e : Int) : Bool :=
  if l = [] then e == 0
  else decide (l.length ≤ 1100) && decide (-100000 ≤ e) && decide (e ≤ 100000) && l.all isDig && !(l.getD 0 0 == 48) && !(l.getD (l.length - 1) 0 == 48)
def BQ (q : Bool × List UInt8 × Int × Int) : Bool × ByteArray × Int × Int := (q.1, B q.2.1, q.2.2.1, q.2.2.2)
def makeL (neg : Bool) (l : List UInt8) (e : Int) : Bool × List UInt8 × Int × Int :=
  if l.all isDig = true then
    if trimR (trimL l) = [] then (neg, [], 0, 0)
    else if rightL (trimR (trimL l)) (e + ((trimL l).length - (trimR (trimL l)).length : Nat)) = true then (neg, trimR (trimL l), e + ((trimL l).length - (trimR (trimL l)).length : Nat), 0)
    else (false, [], 0, 2)
  else (false, [], 0, 3)

theorem hasSuffix_48 (l : List UInt8) (h : l ≠ []) : Lib.hasSuffix l [48] = (l.getD (l.length - 1) 0 == 48) := by
  obtain ⟨a, b, rfl⟩ : ∃ a b, l = a ++ [b] := ⟨l.dropLast, l.getLast h, (List.dropLast_concat_getLast h).symm⟩
  have h1 : (a ++ [b]).getD ((a ++ [b]).length - 1) 0 = b := by
    rw [List.getD, List.length_append, List.length_singleton, Nat.add_sub_cancel, List.getElem?_append_right (Nat.le_refl _), Nat.sub_self]; rfl
  rw [h1]
  unfold Lib.hasSuffix
  rw [Bool.eq_iff_iff, List.isSuffixOf_iff_suffix, beq_iff_eq]
  constructor
  · rintro ⟨t, ht⟩
    have := List.append_inj_right' ht rfl
    simpa using this.symm
  · rintro rfl; exact ⟨a, rfl⟩

theorem beq_nat (b : UInt8) (n : Nat) (hn : n < 256) : ((b.toNat : Int) = n) ↔ b = UInt8.ofNat n := by
  rw [← UInt8.toNat_inj, UInt8.toNat_ofNat', Nat.mod_eq_of_lt hn]; omega

theorem Right_eq (neg : Bool) (l : List UInt8) (e : Int) (hl : l.length ≤ 9223372036854775807) : decimal_Right.f neg (B l) e = some (rightL l e) := by
  unfold decimal_Right.f rightL decimal_plain.f strings_HasSuffix.f
  simp only [B_toList, B_size, B_data, B_bt, Option.bind_some]
  by_cases h0 : l = []
  · rw [if_pos h0, if_pos h0]
  · rw [if_neg h0, if_neg h0, if_pos hl, hasSuffix_48 l h0]
    have hpos : 0 < l.length := List.length_pos_iff.2 h0
    have h48 : (((l.getD (Int.toNat 0) 0).toNat : Int) = 48) ↔ l.getD 0 0 = 48 := beq_nat _ 48 (by decide)
    by_cases h1 : l.length ≤ 1100
    · rw [if_pos (by omega)]
      by_cases h2 : e ≥ -100000
      · rw [if_pos h2]
        by_cases h3 : e ≤ 100000
        · rw [if_pos h3]
          by_cases h4 : l.all isDig = true
          · rw [if_pos h4, if_pos (by omega)]
            by_cases h5 : l.getD 0 0 = 48
            · have h5b : (l.getD 0 0 == 48) = true := beq_iff_eq.2 h5
              rw [if_pos (h48.2 h5), h5b]; simp
            · have h5b : (l.getD 0 0 == 48) = false := beq_eq_false_iff_ne.2 h5
              have h2' : -100000 ≤ e := h2
              rw [if_neg (fun q => h5 (h48.1 q)), h5b, h4]; simp only [Option.bind_some, h1, h2', h3, decide_true, Bool.and_self, Bool.not_false, Bool.true_and]
          · rw [if_neg h4]; simp [Bool.eq_false_iff.2 h4]
        · rw [if_neg h3]; simp [h3]
      · rw [if_neg h2]; simp [h2]
    · rw [if_neg (by omega)]; simp [h1]

theorem trimL_le (l : List UInt8) : (trimL l).length ≤ l.length := by unfold trimL; exact (List.dropWhile_sublist _).length_le
theorem trimR_le (l : List UInt8) : (trimR l).length ≤ l.length := by
  unfold trimR; rw [List.length_reverse]
  exact Nat.le_trans (List.dropWhile_sublist _).length_le (by rw [List.length_reverse]; exact Nat.le_refl _)
theorem ascii48 : asciiB (B [48]) = true := by simp [asciiB]

theorem Make_eq (neg : Bool) (l : List UInt8) (e : Int) (hl : l.length ≤ 10000) (h0 : -9223372036854775808 ≤ e) (h1 : e ≤ 9223372036854775807) :
    decimal_Make.f neg (B l) e = some (BQ (makeL neg l e)) := by
  have hL := trimL_le l
  have hR := trimR_le (trimL l)
  unfold decimal_Make.f decimal_plain.f strings_TrimLeft.f strings_TrimRight.f makeL
  simp only [B_data, Option.bind_some, B_mk]
  by_cases hd : l.all isDig = true
  · rw [if_pos hd, if_pos hd, if_pos ⟨ascii48, by simp⟩]
    simp only [Option.bind_some, B_data, trimLeftS_48, trimRightS_48, B_size]
    rw [if_pos ⟨by omega, ascii48, by simp⟩]
    simp only [Option.bind_some, B_toList, B_size]
    obtain ⟨T, hT⟩ : ∃ T, trimL l = T := ⟨_, rfl⟩
    obtain ⟨S, hS⟩ : ∃ S, trimR T = S := ⟨_, rfl⟩
    rw [hT] at hL hR ⊢
    rw [hS] at hR ⊢
    by_cases hs : S = []
    · rw [if_pos hs, if_pos hs, hs]; rfl
    · rw [if_neg hs, if_neg hs]
      have hw : wrap64 ((T.length : Int) - S.length) = ((T.length - S.length : Nat) : Int) := by rw [w64 (by omega) (by omega)]; omega
      have hmx : mx e (wrap64 (-(wrap64 (e + 1)))) < 1099511627776 ↔ (-1099511627776 < e + 1 ∧ e < 1099511627776) := by
        by_cases hq : e = 9223372036854775807
        · subst hq
          rw [show wrap64 (-(wrap64 (9223372036854775807 + 1))) = -9223372036854775808 from by unfold wrap64; omega]
          unfold mx; split <;> omega
        · rw [w64 (x := e + 1) (by omega) (by omega)]
          by_cases hq2 : e = -9223372036854775808
          · subst hq2
            rw [show wrap64 (-(-9223372036854775808 + 1)) = 9223372036854775807 from by unfold wrap64; omega]
            unfold mx; split <;> omega
          · rw [w64 (x := -(e + 1)) (by omega) (by omega)]; unfold mx; split <;> omega
      by_cases hm : mx e (wrap64 (-(wrap64 (e + 1)))) < 1099511627776
      · obtain ⟨m1, m2⟩ := hmx.1 hm
        rw [if_pos hm, hw, w64 (by omega) (by omega), Right_eq _ _ _ (by omega), Option.bind_some]
        by_cases hr : rightL S (e + ((T.length - S.length : Nat) : Int)) = true
        · rw [if_pos hr, if_pos hr]; rfl
        · rw [if_neg hr, if_neg hr]; rfl
      · have hn := fun q => hm (hmx.2 q)
        rw [if_neg hm, Right_eq _ _ _ (by omega), Option.bind_some]
        have r1 : rightL S e = false := by unfold rightL; rw [if_neg hs]; simp only [Bool.and_eq_false_iff, decide_eq_false_iff_not]; omega
        have r2 : rightL S (e + ((T.length - S.length : Nat) : Int)) = false := by unfold rightL; rw [if_neg hs]; simp only [Bool.and_eq_false_iff, decide_eq_false_iff_not]; omega
        rw [r1, r2]; rfl
  · rw [if_neg hd, if_neg hd]; rfl

theorem mk0 : (⟨#[]⟩ : ByteArray) = B [] := rfl

/-! ### the reference -/
theorem refdigit (b : UInt8) : tabardref7_digit.f (b.toNat : Int) = some (isDig b) := by
  unfold tabardref7_digit.f isDig
  by_cases h : 48 ≤ b.toNat
  · rw [if_pos (by omega)]
    have : (decide ((b.toNat : Int) ≤ 57)) = decide (b.toNat ≤ 57) := by rw [Bool.eq_iff_iff]; simp only [decide_eq_true_eq]; omega
    simp [h, this]
  · rw [if_neg (by omega)]; simp [h]

theorem drop_getD (l : List UInt8) (i : Nat) (h : i < l.length) : l.drop i = l.getD i 0 :: l.drop (i + 1) := by
  rw [List.drop_eq_getElem_cons h, List.getD, List.getElem?_eq_getElem h]; rfl

theorem refRight_loop (l : List UInt8) (neg : Bool) (e : Int) (hl : l.length ≤ 9223372036854775806) (d : Nat) : ∀ (i : Nat), i ≤ l.length → l.length - i = d →
    Ev (fun k => tabardref7_Right.l0 k (l.length : Int) (i : Int) neg (B l) e) ((l.drop i).all isDig) := by
  induction d with
  | zero =>
    intro i hi hd
    refine Ev.step (fun k => by rw [tabardref7_Right.l0]) ?_
    simp only [if_neg (show ¬ ((i : Int) < (l.length : Int)) by omega)]
    rw [List.drop_of_length_le (by omega)]
    exact Ev.now true
  | succ d ih =>
    intro i hi hd
    have hlt : i < l.length := by omega
    refine Ev.step (fun k => by rw [tabardref7_Right.l0]) ?_
    simp only [B_size, B_bt, if_pos (show ((i : Int) < (l.length : Int)) by omega), if_pos (show (0 ≤ (i : Int)) by omega), Int.toNat_natCast, refdigit, Option.bind_some]
    rw [drop_getD l i hlt, List.all_cons]
    cases hb : isDig (l.getD i 0) with
    | false => simpa using Ev.now false
    | true =>
      simp only [if_true, Bool.true_and]
      have := ih (i + 1) hlt (by omega)
      rw [show wrap64 ((i : Int) + 1) = ((i + 1 : Nat) : Int) by rw [w64 (by omega) (by omega)]; rfl]
      exact this

theorem refRight (neg : Bool) (l : List UInt8) (e : Int) (hl : l.length ≤ 9223372036854775806) : Ev (fun k => tabardref7_Right.f k neg (B l) e) (rightL l e) := by
  unfold tabardref7_Right.f rightL
  simp only [B_size, B_bt]
  by_cases h0 : l = []
  · subst h0; simpa using Ev.now (e == 0)
  · have hpos : 0 < l.length := List.length_pos_iff.2 h0
    have hj : ∀ b : Bool, Ev (fun k => tabardref7_Right.j0 k (l.length : Int) b neg (B l) e) (!b && l.all isDig) := by
      intro b
      refine Ev.step (fun k => by rw [tabardref7_Right.j0]) ?_
      cases b with
      | true => simpa using Ev.now false
      | false =>
        have := refRight_loop l neg e hl l.length 0 (by omega) (by omega)
        simpa using this
    rw [if_neg h0]
    simp only [if_neg (show ¬ ((l.length : Int) = 0) by omega)]
    by_cases h1 : l.length ≤ 1100
    · simp only [if_neg (show ¬ ((l.length : Int) > 1100) by omega)]
      by_cases h2 : e < -100000
      · simp only [if_pos h2]
        have : ¬ (-100000 ≤ e) := by omega
        simpa [this] using hj true
      · simp only [if_neg h2]
        by_cases h3 : e > 100000
        · simp only [if_pos h3]
          have : ¬ (e ≤ 100000) := by omega
          simpa [this] using hj true
        · simp only [if_neg h3, if_pos (show (0 : Int) < (l.length : Int) by omega)]
          have h48 : (((l.getD (Int.toNat 0) 0).toNat : Int) = 48) ↔ l.getD 0 0 = 48 := beq_nat _ 48 (by decide)
          have e2 : -100000 ≤ e := by omega
          have e3 : e ≤ 100000 := by omega
          by_cases h5 : l.getD 0 0 = 48
          · have h5b : (l.getD 0 0 == 48) = true := beq_iff_eq.2 h5
            simp only [if_pos (h48.2 h5)]
            rw [h5b]
            simpa using hj true
          · simp only [if_neg (fun q => h5 (h48.1 q))]
            rw [show wrap64 ((l.length : Int) - 1) = ((l.length - 1 : Nat) : Int) by rw [w64 (by omega) (by omega)]; omega]
            simp only [if_pos (show (0 : Int) ≤ ((l.length - 1 : Nat) : Int) by omega), if_pos (show ((l.length - 1 : Nat) : Int) < (l.length : Int) by omega), Int.toNat_natCast]
            have h482 : (((l.getD (l.length - 1) 0).toNat : Int) == 48) = (l.getD (l.length - 1) 0 == 48) := by
              rw [Bool.eq_iff_iff, beq_iff_eq, beq_iff_eq]; exact beq_nat _ 48 (by decide)
            rw [h482]
            have hq := hj (l.getD (l.length - 1) 0 == 48)
            have : (!(l.getD (l.length - 1) 0 == 48) && l.all isDig) = (decide (l.length ≤ 1100) && decide (-100000 ≤ e) && decide (e ≤ 100000) && l.all isDig && !(l.getD 0 0 == 48) && !(l.getD (l.length - 1) 0 == 48)) := by
              have h5b : (l.getD 0 0 == 48) = false := beq_eq_false_iff_ne.2 h5
              rw [h5b]; simp [h1, e2, e3, Bool.and_comm]
            rw [← this]; exact hq
    · simp only [if_pos (show ((l.length : Int) > 1100) by omega)]
      simpa [h1] using hj true
end Go.Proofs.YtneeeaafhjaooaaGreatDoor.P
