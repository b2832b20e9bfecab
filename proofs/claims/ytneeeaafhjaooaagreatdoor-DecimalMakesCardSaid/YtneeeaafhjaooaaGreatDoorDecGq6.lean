import Derived.Test.YtneeeaafhjaooaaGreatDoorDecDq6
import Derived.Test.YtneeeaafhjaooaaGreatDoorDecAq6
import Derived.Test.YtneeeaafhjaooaaGreatDoorP0q6
import Derived.Test.YtneeeaafhjaooaaGreatDoorProg
import Derived.Test.YtneeeaafhjaooaaGreatDoorElibq6
import Derived.Test.YtneeeaafhjaooaaGreatDoorShelfq6
import Derived.Test.YtneeeaafhjaooaaGreatDoorP6q6
import Derived.Test.YtneeeaafhjaooaaGreatDoorP10q6
import Derived.Test.YtneeeaafhjaooaaGreatDoorLibsq6
import Derived.Lib.ItoaLen
import Derived.Lib.ItoaMem
set_option linter.unusedSimpArgs false
set_option linter.unusedVariables false
set_option linter.unusedSectionVars false
namespace Go.Proofs.YtneeeaafhjaooaaGreatDoor.P
set_option linter.all false
open Go.RowKit Go.Proofs.YtneeeaafhjaooaaGreatDoorW.PrintWords Go.Proofs.YtneeeaafhjaooaaGreatDoorW.PrintLast Go.Proofs.YtneeeaafhjaooaaGreatDoorW.PrintMore

def bigL (p : Int) : List UInt8 := if p < 1 then 101 :: 45 :: Lib.decDigits (1 - p).toNat else 101 :: 43 :: Lib.decDigits (p - 1).toNat
def bodyL (l : List UInt8) (p : Int) : List UInt8 :=
  if l = [] then [48]
  else if 1 ≤ p ∧ p ≤ 21 then (if (l.length : Int) ≤ p then l ++ List.replicate (p.toNat - l.length) 48 else l.take p.toNat ++ 46 :: l.drop p.toNat)
  else if -5 ≤ p ∧ p ≤ 0 then 48 :: 46 :: (List.replicate (-p).toNat 48 ++ l)
  else l.take 1 ++ ((if 1 < l.length then 46 :: l.drop 1 else []) ++ bigL p)
def signL (neg : Bool) : List UInt8 := if neg = true then [45] else []
def printL (neg : Bool) (l : List UInt8) (e : Int) : List UInt8 := if rightL l e = true then signL neg ++ bodyL l (l.length + e) else []

theorem c45 : (⟨#[45]⟩ : ByteArray) = B [45] := rfl
theorem c46 : (⟨#[46]⟩ : ByteArray) = B [46] := rfl
theorem c48 : (⟨#[48]⟩ : ByteArray) = B [48] := rfl
theorem c4846 : (⟨#[48, 46]⟩ : ByteArray) = B [48, 46] := rfl
theorem cem : (⟨#[101, 45]⟩ : ByteArray) = B [101, 45] := rfl
theorem cep : (⟨#[101, 43]⟩ : ByteArray) = B [101, 43] := rfl
theorem itoa_nat (n : Nat) (h : n ≤ 1000000) : strconv_Itoa.f (n : Int) = some (B (Lib.decDigits n)) ∧ (Lib.decDigits n).length ≤ 21 := by
  unfold strconv_Itoa.f
  have := Lib.itoa_length_le (n : Int) (by omega) (by omega)
  rw [Lib.itoa_nonneg] at this ⊢
  rw [if_pos (by omega)]
  exact ⟨rfl, this⟩

section
variable (neg : Bool) (l : List UInt8) (e : Int) (s : List UInt8) (hs : s.length ≤ 1) (hl : l.length ≤ 1100) (h0 : l ≠ []) (p : Int) (hp0 : -100000 ≤ p) (hp1 : p ≤ 101100)
include hs hl h0 hp0 hp1

theorem prog_j4 (t : List UInt8) (ht : t.length ≤ 1200) : Ev (fun k => decimal_Print.j4 k (B t) p) (B (t ++ bigL p)) := by
  refine Ev.step (fun k => by rw [decimal_Print.j4]) ?_
  unfold bigL
  simp only [B_size, cem, cep, B_append, if_pos (show t.length + 2 ≤ 9223372036854775807 by omega)]
  by_cases hp : p < 1
  · obtain ⟨h1, h2⟩ := itoa_nat (1 - p).toNat (by omega)
    rw [show wrap64 (1 - p) = (((1 - p).toNat : Nat) : Int) by rw [w64 (by omega) (by omega)]; omega]
    simp only [if_pos hp, h1, Option.bind_some, B_size, B_append]
    rw [if_pos (by simp only [List.length_append, List.length_cons, List.length_nil]; omega)]
    simp only [List.append_assoc, List.cons_append, List.nil_append]
    exact Ev.now _
  · obtain ⟨h1, h2⟩ := itoa_nat (p - 1).toNat (by omega)
    rw [show wrap64 (p - 1) = (((p - 1).toNat : Nat) : Int) by rw [w64 (by omega) (by omega)]; omega]
    simp only [if_neg hp, h1, Option.bind_some, B_size, B_append]
    rw [if_pos (by simp only [List.length_append, List.length_cons, List.length_nil]; omega)]
    simp only [List.append_assoc, List.cons_append, List.nil_append]
    exact Ev.now _

theorem prog_pj3 : Ev (fun k => decimal_Print.j3 k (B s) p (l.length : Int) neg (B l) e) (B (s ++ (l.take 1 ++ ((if 1 < l.length then 46 :: l.drop 1 else []) ++ bigL p)))) := by
  have hpos : 0 < l.length := List.length_pos_iff.2 h0
  have ht1 : (l.take 1).length = 1 := by rw [List.length_take]; omega
  refine Ev.step (fun k => by rw [decimal_Print.j3]) ?_
  have hex1 : (B l).extract 0 1 = B (l.take 1) := by rw [B_extract]; simp
  have hex2 : (B l).extract 1 l.length = B (l.drop 1) := by rw [B_extract, List.take_length]
  simp only [if_pos (show (0 : Nat) ≤ 1 by omega), B_size, if_pos (show (1 : Int) ≤ (l.length : Int) by omega), hex1, hex2, ht1, c46, B_append, List.length_append, List.length_drop, List.length_cons, List.length_nil]
  simp only [if_pos (show s.length + 1 ≤ 9223372036854775807 by omega)]
  by_cases hn : 1 < l.length
  · simp only [if_pos (show ((l.length : Int) > 1) by omega), if_pos hn, if_pos (show 1 + (l.length - 1) ≤ 9223372036854775807 by omega), if_pos (show s.length + 1 + (0 + 1 + (l.length - 1)) ≤ 9223372036854775807 by omega)]
    have := prog_j4 l s hs hl h0 p hp0 hp1 (s ++ l.take 1 ++ ([46] ++ l.drop 1)) (by simp; omega)
    simpa only [List.append_assoc, List.cons_append, List.nil_append] using this
  · simp only [if_neg (show ¬ ((l.length : Int) > 1) by omega), if_neg hn, List.nil_append]
    have := prog_j4 l s hs hl h0 p hp0 hp1 (s ++ l.take 1) (by simp; omega)
    simpa only [List.append_assoc] using this

theorem prog_pj2 : Ev (fun k => decimal_Print.j2 k (B s) p (l.length : Int) false neg (B l) e) (B (s ++ (if -5 ≤ p ∧ p ≤ 0 then 48 :: 46 :: (List.replicate (-p).toNat 48 ++ l)
  else l.take 1 ++ ((if 1 < l.length then 46 :: l.drop 1 else []) ++ bigL p)))) := by
  have key := prog_pj3 neg l e s hs hl h0 p hp0 hp1
  refine Ev.step (fun k => by rw [decimal_Print.j2]) ?_
  simp only [Bool.false_eq_true, if_false, B_size]
  by_cases h5 : p ≥ -5
  · simp only [if_pos h5]
    by_cases hp : p ≤ 0
    · have hrep : ([48] : List UInt8).length * (-p).toNat ≤ 140737488355328 := by simp; omega
      simp only [if_pos hp, if_pos (show -5 ≤ p ∧ p ≤ 0 from ⟨h5, hp⟩), if_pos (show s.length + 2 ≤ 9223372036854775807 by omega), c48, c4846, strings_Repeat.f, B_size, B_data, repeatL_one, B_mk, B_append]
      rw [show wrap64 (-p) = -p by rw [w64 (by omega) (by omega)]]
      simp only [if_pos (show (0 ≤ -p ∧ -p ≤ 9223372036854775807 ∧ ([48] : List UInt8).length * (-p).toNat ≤ 140737488355328) from ⟨by omega, by omega, hrep⟩), Option.bind_some, B_size, List.length_replicate, B_append]
      simp only [if_pos (show s.length + 2 + (-p).toNat ≤ 9223372036854775807 by omega), if_pos (show s.length + 2 + (-p).toNat + l.length ≤ 9223372036854775807 by omega)]
      simp only [List.append_assoc, List.cons_append, List.nil_append]
      exact Ev.now _
    · simp only [if_neg hp, if_neg (show ¬ (-5 ≤ p ∧ p ≤ 0) from fun q => hp q.2)]
      exact key
  · simp only [if_neg h5, if_neg (show ¬ (-5 ≤ p ∧ p ≤ 0) from fun q => h5 q.1)]
    exact key

theorem prog_body : Ev (fun k => if p ≥ 1 then (if p ≤ 21 then (decimal_Print.j1 k (B s) p (l.length : Int) (decide (p ≥ (l.length : Int))) neg (B l) e) else (decimal_Print.j1 k (B s) p (l.length : Int) false neg (B l) e)) else (decimal_Print.j1 k (B s) p (l.length : Int) false neg (B l) e)) (B (s ++ bodyL l p)) := by
  have key := prog_pj2 neg l e s hs hl h0 p hp0 hp1
  unfold bodyL
  simp only [if_neg h0]
  by_cases h1 : p ≥ 1
  · simp only [if_pos h1]
    by_cases h2 : p ≤ 21
    · simp only [if_pos h2, if_pos (show 1 ≤ p ∧ p ≤ 21 from ⟨h1, h2⟩)]
      refine Ev.step (fun k => by rw [decimal_Print.j1]) ?_
      by_cases hn : (l.length : Int) ≤ p
      · have hrep : ([48] : List UInt8).length * (p.toNat - l.length) ≤ 140737488355328 := by simp; omega
        simp only [decide_eq_true (show p ≥ (l.length : Int) from hn), if_true, B_size, if_pos hn, if_pos (show s.length + l.length ≤ 9223372036854775807 by omega), c48, strings_Repeat.f, B_data, repeatL_one, B_mk, B_append]
        rw [show wrap64 (p - (l.length : Int)) = ((p.toNat - l.length : Nat) : Int) by rw [w64 (by omega) (by omega)]; omega]
        simp only [Int.toNat_natCast, if_pos (show (0 ≤ ((p.toNat - l.length : Nat) : Int) ∧ ((p.toNat - l.length : Nat) : Int) ≤ 9223372036854775807 ∧ ([48] : List UInt8).length * (p.toNat - l.length) ≤ 140737488355328) from ⟨by omega, by omega, hrep⟩), Option.bind_some, B_size, List.length_replicate, B_append]
        rw [if_pos (by omega)]
        simp only [List.append_assoc]
        exact Ev.now _
      · simp only [decide_eq_false (show ¬ (p ≥ (l.length : Int)) from hn), Bool.false_eq_true, if_false, if_pos h1, if_neg hn, decide_eq_true h2]
        refine Ev.step (fun k => by rw [decimal_Print.j2]) ?_
        have hex1 : (B l).extract 0 p.toNat = B (l.take p.toNat) := by rw [B_extract]; simp
        have hex2 : (B l).extract p.toNat l.length = B (l.drop p.toNat) := by rw [B_extract, List.take_length]
        simp only [if_true, B_size, if_pos (show 0 ≤ p by omega), if_pos (show p ≤ (l.length : Int) by omega), if_pos (show s.length + p.toNat ≤ 9223372036854775807 by omega), if_pos (show s.length + p.toNat + 1 ≤ 9223372036854775807 by omega), if_pos (show s.length + p.toNat + 1 + (l.length - p.toNat) ≤ 9223372036854775807 by omega), hex1, hex2, c46, B_append]
        simp only [List.append_assoc, List.cons_append, List.nil_append]
        exact Ev.now _
    · simp only [if_neg h2, if_neg (show ¬ (1 ≤ p ∧ p ≤ 21) from fun q => h2 q.2)]
      refine Ev.step (fun k => by rw [decimal_Print.j1]) ?_
      simp only [Bool.false_eq_true, if_false, if_pos h1, decide_eq_false h2]
      exact key
  · simp only [if_neg h1, if_neg (show ¬ (1 ≤ p ∧ p ≤ 21) from fun q => h1 q.1)]
    refine Ev.step (fun k => by rw [decimal_Print.j1]) ?_
    simp only [Bool.false_eq_true, if_false, if_neg h1]
    exact key
end

theorem Print_eq (neg : Bool) (l : List UInt8) (e : Int) (hl : l.length ≤ 9223372036854775806) : Ev (fun k => decimal_Print.f k neg (B l) e) (B (printL neg l e)) := by
  unfold decimal_Print.f printL
  simp only [Right_eq neg l e (by omega), Option.bind_some]
  by_cases hr : rightL l e = true
  · obtain ⟨hd, hlen, he0, he1, hz⟩ := right_facts hr
    simp only [if_pos hr]
    have go : ∀ s : List UInt8, s.length ≤ 1 → Ev (fun k => decimal_Print.j0 k (B s) neg (B l) e) (B (s ++ bodyL l (l.length + e))) := by
      intro s hs
      refine Ev.step (fun k => by rw [decimal_Print.j0]) ?_
      simp only [Point_eq neg l e hl, if_pos hr, Option.bind_some, B_size]
      by_cases h0 : l = []
      · subst h0
        simp only [List.length_nil, Int.natCast_zero, if_true, if_pos (show s.length + 1 ≤ 9223372036854775807 by omega), c48, B_append]
        exact Ev.now _
      · have hpos : 0 < l.length := List.length_pos_iff.2 h0
        simp only [if_neg (show ¬ ((l.length : Int) = 0) by omega)]
        exact prog_body neg l e s hs hlen h0 _ (by omega) (by omega)
    cases neg with
    | true => simp only [if_true, c45]; exact go [45] (by simp)
    | false => simp only [Bool.false_eq_true, if_false, mk0]; exact go [] (by simp)
  · simp only [if_neg hr, mk0]
    exact Ev.now _

end Go.Proofs.YtneeeaafhjaooaaGreatDoor.P
