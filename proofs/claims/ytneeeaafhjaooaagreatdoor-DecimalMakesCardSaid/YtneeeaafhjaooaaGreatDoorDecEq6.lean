import Derived.Test.YtneeeaafhjaooaaGreatDoorDecAq6
import Derived.Test.YtneeeaafhjaooaaGreatDoorP0q6
import Derived.Test.YtneeeaafhjaooaaGreatDoorProg
import Derived.Test.YtneeeaafhjaooaaGreatDoorElibq6
import Derived.Test.YtneeeaafhjaooaaGreatDoorShelfq6
import Derived.Test.YtneeeaafhjaooaaGreatDoorP2q6
import Derived.Test.YtneeeaafhjaooaaGreatDoorP4q6
import Derived.Test.YtneeeaafhjaooaaGreatDoorP5q6
import Derived.Test.YtneeeaafhjaooaaGreatDoorP10q6
import Derived.Test.YtneeeaafhjaooaaGreatDoorLibsq6
import Derived.Lib.Atoi
set_option linter.unusedSimpArgs false
set_option linter.unusedVariables false
namespace Go.Proofs.YtneeeaafhjaooaaGreatDoor.P
set_option linter.all false
open Go.RowKit Go.Proofs.YtneeeaafhjaooaaGreatDoorW.PrintWords Go.Proofs.YtneeeaafhjaooaaGreatDoorW.PrintLast Go.Proofs.YtneeeaafhjaooaaGreatDoorW.PrintMore

/-- The number that digits spell. -/
def natFrom (a : Nat) (l : List UInt8) : Nat := l.foldl (fun a b => a * 10 + (b.toNat - 48)) a
def natL (l : List UInt8) : Nat := natFrom 0 l
theorem natFrom_cons (a : Nat) (b : UInt8) (l : List UInt8) : natFrom a (b :: l) = natFrom (a * 10 + (b.toNat - 48)) l := by unfold natFrom; rw [List.foldl_cons]
theorem natFrom_lt (l : List UInt8) (h : l.all isDig = true) : ∀ a, natFrom a l < (a + 1) * 10 ^ l.length := by
  induction l with
  | nil => intro a; simp [natFrom]
  | cons b l ih =>
    intro a
    rw [List.all_cons, Bool.and_eq_true] at h
    have hb := (isDig_iff b).1 h.1
    have := ih h.2 (a * 10 + (b.toNat - 48))
    rw [natFrom_cons, List.length_cons, Nat.pow_succ]
    refine Nat.lt_of_lt_of_le this ?_
    rw [show (a + 1) * (10 ^ l.length * 10) = ((a + 1) * 10) * 10 ^ l.length by rw [Nat.mul_comm (10 ^ l.length), Nat.mul_assoc]]
    exact Nat.mul_le_mul_right _ (by omega)
theorem decFrom_eq (l : List UInt8) (h : l.all isDig = true) : ∀ a, Lib.decFrom a l = some (natFrom a l) := by
  induction l with
  | nil => intro a; rfl
  | cons b l ih =>
    intro a
    rw [List.all_cons, Bool.and_eq_true] at h
    have hb := (isDig_iff b).1 h.1
    simp only [Lib.decFrom, Lib.digitVal, if_pos hb, natFrom_cons]
    exact ih h.2 _
theorem atoi_digits (l : List UInt8) (h : l.all isDig = true) (h0 : l ≠ []) : Lib.atoi l = some (natL l : Int) := by
  cases l with
  | nil => exact absurd rfl h0
  | cons b l =>
    have h' := h
    rw [List.all_cons, Bool.and_eq_true] at h'
    have hb := (isDig_iff b).1 h'.1
    have h45 : (b == 45) = false := by rw [beq_eq_false_iff_ne]; rintro rfl; revert hb; decide
    have h43 : (b == 43) = false := by rw [beq_eq_false_iff_ne]; rintro rfl; revert hb; decide
    unfold Lib.atoi
    simp only [h45, h43, Bool.false_eq_true, if_false, Lib.decNat, List.isEmpty_cons]
    rw [decFrom_eq _ h]; rfl

/-- What stands behind an 'e' or 'E': without its sign; is it none; its number. -/
def skipL (t : List UInt8) : List UInt8 := if t.head? = some 43 ∨ t.head? = some 45 then t.tail else t
def badL (u : List UInt8) : Bool := decide (u.takeWhile isDig = []) || decide (9 < (u.takeWhile isDig).length) || decide (u.dropWhile isDig ≠ [])
def expV (t u : List UInt8) : Int := if t.head? = some 45 then -(natL (u.takeWhile isDig) : Int) else (natL (u.takeWhile isDig) : Int)
def expT (t : List UInt8) : Option Int := if badL (skipL t) = true then none else some (expV t (skipL t))
def expL : List UInt8 → Option Int
  | [] => some 0
  | c :: t => if c = 101 ∨ c = 69 then expT t else none
def finL (neg : Bool) (a b : List UInt8) : Option Int → Bool × List UInt8 × Int × Int
  | none => (false, [], 0, 3)
  | some e => makeL neg (a ++ b) (e - b.length)
def endL (neg : Bool) (a b l3 : List UInt8) : Bool × List UInt8 × Int × Int :=
  if a ++ b = [] then (false, [], 0, 3) else finL neg a b (expL l3)
theorem badL_iff (u : List UInt8) : badL u = true ↔ (u.takeWhile isDig = [] ∨ 9 < (u.takeWhile isDig).length ∨ u.dropWhile isDig ≠ []) := by
  unfold badL; simp only [Bool.or_eq_true, decide_eq_true_eq, or_assoc]
theorem expL_yes (c : UInt8) (t : List UInt8) (h : c = 101 ∨ c = 69) : expL (c :: t) = expT t := if_pos h
theorem expL_no (c : UInt8) (t : List UInt8) (h : ¬ (c = 101 ∨ c = 69)) : expL (c :: t) = none := if_neg h
def behindL (neg : Bool) (a l2 : List UInt8) : Bool × List UInt8 × Int × Int :=
  if l2.head? = some 46 then endL neg a (l2.tail.takeWhile isDig) (l2.tail.dropWhile isDig) else endL neg a [] l2
def parseL (l : List UInt8) : Bool × List UInt8 × Int × Int :=
  if l.head? = some 45 then behindL true (l.tail.takeWhile isDig) (l.tail.dropWhile isDig)
  else behindL false (l.takeWhile isDig) (l.dropWhile isDig)

theorem digs_contains : ∀ b : UInt8, ([48, 49, 50, 51, 52, 53, 54, 55, 56, 57] : List UInt8).contains b = isDig b := by
  intro b; rw [Bool.eq_iff_iff, isDig_iff]; simp only [List.contains_cons, List.contains_nil, Bool.or_false, Bool.or_eq_true, beq_iff_eq, ← UInt8.toNat_inj, UInt8.reduceToNat]; omega
theorem span_len (l : List UInt8) : (l.takeWhile isDig).length + (l.dropWhile isDig).length = l.length := by
  rw [← List.length_append, List.takeWhile_append_dropWhile]
theorem span_take (l : List UInt8) : l.take (l.takeWhile isDig).length = l.takeWhile isDig := by
  conv => lhs; arg 2; rw [← List.takeWhile_append_dropWhile (p := isDig) (l := l)]
  exact List.take_left
theorem digits_eq (l : List UInt8) (hl : l.length ≤ 9223372036854775807) : decimal_digits.f (B l) = some (B (l.takeWhile isDig), B (l.dropWhile isDig)) := by
  unfold decimal_digits.f strings_TrimLeft.f
  have ha : asciiB (B [48, 49, 50, 51, 52, 53, 54, 55, 56, 57]) = true := by simp [asciiB]
  have hs := span_len l
  have hd : Lib.trimLeftS l [48, 49, 50, 51, 52, 53, 54, 55, 56, 57] = l.dropWhile isDig := by
    unfold Lib.trimLeftS; congr 1; funext b; exact digs_contains b
  have hmk : (⟨#[48, 49, 50, 51, 52, 53, 54, 55, 56, 57]⟩ : ByteArray) = B [48, 49, 50, 51, 52, 53, 54, 55, 56, 57] := rfl
  simp only [hmk, B_data, B_mk, hd, B_size]
  rw [if_pos ⟨ha, by simp⟩]
  simp only [Option.bind_some, B_size]
  rw [show wrap64 ((l.length : Int) - ((l.dropWhile isDig).length : Int)) = ((l.takeWhile isDig).length : Int) by rw [w64 (by omega) (by omega)]; omega]
  rw [if_pos (by omega), if_pos (by omega)]
  simp only [Int.toNat_natCast, B_extract, List.drop_zero, span_take]
theorem takeWhile_all (l : List UInt8) : (l.takeWhile isDig).all isDig = true := List.all_takeWhile

section
variable (neg : Bool) (a b : List UInt8) (hab : a.length + b.length ≤ 10000)
include hab

theorem prog_make (e : Int) (h0 : -10000000000 ≤ e) (h1 : e ≤ 10000000000) :
    (if (B a).size + (B b).size ≤ 9223372036854775807 then ((decimal_Make.f neg (B a ++ B b) (wrap64 (e - ((B b).size : Int)))).bind fun bt188 => (some (bt188.1, bt188.2.1, bt188.2.2.1, bt188.2.2.2))) else (none)) = some (BQ (makeL neg (a ++ b) (e - b.length))) := by
  rw [B_size, B_size, if_pos (by omega), B_append, w64 (by omega) (by omega), Make_eq _ _ _ (by rw [List.length_append]; omega) (by omega) (by omega)]
  rfl

theorem prog_j3 (c : UInt8) (t : List UInt8) (ht : t.length ≤ 10000) :
    Ev (fun k => decimal_Parse.j3 k (B (c :: t)) neg (B a) (B b) (B (skipL t))) (BQ (finL neg a b (expT t))) := by
  obtain ⟨u, hu⟩ : ∃ u, skipL t = u := ⟨_, rfl⟩
  have hul : u.length ≤ 10000 := by
    subst hu; unfold skipL; split
    · have := List.length_tail (l := t); omega
    · exact ht
  unfold expT
  rw [hu]
  refine Ev.step (fun k => by rw [decimal_Parse.j3]) ?_
  simp only [digits_eq u (by omega), Option.bind_some, B_toList, B_size]
  have hbad : Ev (fun k => decimal_Parse.j4 k (B (c :: t)) neg (B a) (B b) (B (u.takeWhile isDig)) true) (BQ (false, [], 0, 3)) := by
    refine Ev.step (fun k => by rw [decimal_Parse.j4]) ?_
    simp only [if_true]
    exact Ev.now _
  by_cases hn : u.takeWhile isDig = []
  · simp only [if_pos hn, if_pos ((badL_iff u).2 (.inl hn))]; exact hbad
  · simp only [if_neg hn]
    by_cases h9 : ((u.takeWhile isDig).length : Int) > 9
    · simp only [if_pos h9, if_pos ((badL_iff u).2 (.inr (.inl (by omega))))]; exact hbad
    · simp only [if_neg h9]
      by_cases hr : u.dropWhile isDig = []
      · simp only [if_neg (show ¬ (badL u = true) from fun q => by rcases (badL_iff u).1 q with q | q | q; exact hn q; exact h9 (by omega); exact q hr)]
        simp only [hr, bne_self_eq_false]
        refine Ev.step (fun k => by rw [decimal_Parse.j4]) ?_
        have hsz : (u.takeWhile isDig).length ≤ 18 := by omega
        have hlt := natFrom_lt _ (takeWhile_all u) 0
        have hp : 10 ^ (u.takeWhile isDig).length ≤ 10 ^ 9 := Nat.pow_le_pow_right (by decide) (by omega)
        have hv : natL (u.takeWhile isDig) < 1000000000 := by unfold natL; omega
        have htne : t ≠ [] := by
          intro q; subst q; rw [← hu] at hn; exact hn rfl
        have htp : 0 < t.length := List.length_pos_iff.2 htne
        simp only [Bool.false_eq_true, if_false, strconv_Atoi.f, B_data, atoi_digits _ (takeWhile_all u) hn, Option.map_some, B_size, List.length_cons, if_pos hsz, Option.bind_some]
        simp only [if_pos (show (1 : Int) < ((t.length + 1 : Nat) : Int) by omega), if_true, B_bt]
        have hat : (c :: t).getD (Int.toNat 1) 0 = t.getD 0 0 := rfl
        rw [hat]
        have h45 : (((t.getD 0 0).toNat : Int) = 45) ↔ t.head? = some 45 := by
          rw [show ((45 : Int)) = ((45 : Nat) : Int) from rfl, beq_nat _ 45 (by decide)]
          cases t with
          | nil => exact absurd rfl htne
          | cons x t => simp
        unfold expV finL
        by_cases hm : t.head? = some 45
        · simp only [if_pos (h45.2 hm), if_pos hm]
          have := prog_make neg a b hab (-(natL (u.takeWhile isDig) : Int)) (by omega) (by omega)
          simp only [B_size] at this
          rw [w64 (x := -(natL (u.takeWhile isDig) : Int)) (by omega) (by omega), this]
          exact Ev.now _
        · simp only [if_neg (fun q => hm (h45.1 q)), if_neg hm]
          have := prog_make neg a b hab ((natL (u.takeWhile isDig) : Int)) (by omega) (by omega)
          simp only [B_size] at this
          rw [this]
          exact Ev.now _
      · have : (u.dropWhile isDig != ([] : List UInt8)) = true := by simpa using hr
        simp only [this, if_pos ((badL_iff u).2 (.inr (.inr hr)))]; exact hbad

theorem prog_yes (c : UInt8) (t : List UInt8) (hl : (c :: t).length ≤ 10000) : Ev (fun k => decimal_Parse.j1 k (B (c :: t)) neg (B a) (B b) 0 true) (BQ (finL neg a b (expT t))) := by
  rw [List.length_cons] at hl
  refine Ev.step (fun k => by rw [decimal_Parse.j1]) ?_
  have hex : (B (c :: t)).extract 1 (t.length + 1) = B t := by rw [B_extract]; simp
  simp only [if_true, B_size, List.length_cons, if_pos (show (1 : Int) ≤ ((t.length + 1 : Nat) : Int) by omega), hex, B_toList]
  have key := prog_j3 neg a b hab c t (by omega)
  have hskip : t.head? = some 43 ∨ t.head? = some 45 → Ev (fun k => decimal_Parse.j2 k (B (c :: t)) neg (B a) (B b) (B t) true) (BQ (finL neg a b (expT t))) := by
    intro hs
    refine Ev.step (fun k => by rw [decimal_Parse.j2]) ?_
    have hu : skipL t = t.tail := if_pos hs
    rw [hu] at key
    cases t with
    | nil => simp at hs
    | cons x t =>
      have hex2 : (B (x :: t)).extract 1 (t.length + 1) = B t := by rw [B_extract]; simp
      simp only [if_true, B_size, List.length_cons, if_pos (show (1 : Int) ≤ ((t.length + 1 : Nat) : Int) by omega), hex2]
      exact key
  have hstay : ¬ (t.head? = some 43 ∨ t.head? = some 45) → Ev (fun k => decimal_Parse.j2 k (B (c :: t)) neg (B a) (B b) (B t) false) (BQ (finL neg a b (expT t))) := by
    intro hs
    refine Ev.step (fun k => by rw [decimal_Parse.j2]) ?_
    simp only [Bool.false_eq_true, if_false]
    have hu : skipL t = t := if_neg hs
    rw [hu] at key
    exact key
  cases t with
  | nil =>
    simp only [if_true]
    exact hstay (by simp)
  | cons x t =>
    simp only [if_neg (show ¬ (x :: t = []) by simp), List.length_cons, if_pos (show (0 : Int) < ((t.length + 1 : Nat) : Int) by omega), B_bt]
    have hx : (x :: t).getD (Int.toNat 0) 0 = x := rfl
    rw [hx]
    by_cases h43 : x = 43
    · simp only [if_pos (show ((x.toNat : Int) = 43) from (beq_nat x 43 (by decide)).2 h43)]
      exact hskip (.inl (by rw [h43]; rfl))
    · simp only [if_neg (show ¬ ((x.toNat : Int) = 43) from fun q => h43 ((beq_nat x 43 (by decide)).1 q))]
      by_cases h45 : x = 45
      · rw [show ((x.toNat : Int) == 45) = true from by rw [h45]; rfl]
        exact hskip (.inr (by rw [h45]; rfl))
      · rw [show ((x.toNat : Int) == 45) = false from by rw [beq_eq_false_iff_ne]; exact fun q => h45 ((beq_nat x 45 (by decide)).1 q)]
        exact hstay (by simp [h43, h45])

theorem prog_end (l3 : List UInt8) (hl : l3.length ≤ 10000) : Ev (fun k => decimal_Parse.j0 k (B l3) neg (B a) (B b)) (BQ (endL neg a b l3)) := by
  refine Ev.step (fun k => by rw [decimal_Parse.j0]) ?_
  unfold endL
  simp only [B_size, if_pos (show a.length + b.length ≤ 9223372036854775807 by omega), B_append, B_toList]
  by_cases h0 : a ++ b = []
  · simp only [if_pos h0]; exact Ev.now _
  · simp only [if_neg h0]
    cases l3 with
    | nil =>
      simp only [if_true]
      refine Ev.step (fun k => by rw [decimal_Parse.j1]) ?_
      have := prog_make neg a b hab 0 (by omega) (by omega)
      simp only [B_size] at this
      simp only [Bool.false_eq_true, if_false, B_toList, if_true, B_size, this]
      exact Ev.now _
    | cons c t =>
      simp only [if_neg (show ¬ (c :: t = []) by simp), List.length_cons, if_pos (show (0 : Int) < ((t.length + 1 : Nat) : Int) by omega), B_bt]
      have hx : (c :: t).getD (Int.toNat 0) 0 = c := rfl
      rw [hx]
      by_cases h101 : c = 101
      · simp only [if_pos (show ((c.toNat : Int) = 101) from (beq_nat c 101 (by decide)).2 h101)]
        rw [expL_yes c t (.inl h101)]
        exact prog_yes neg a b hab c t hl
      · simp only [if_neg (show ¬ ((c.toNat : Int) = 101) from fun q => h101 ((beq_nat c 101 (by decide)).1 q))]
        by_cases h69 : c = 69
        · rw [show ((c.toNat : Int) == 69) = true from by rw [h69]; rfl, expL_yes c t (.inr h69)]
          exact prog_yes neg a b hab c t hl
        · rw [show ((c.toNat : Int) == 69) = false from by rw [beq_eq_false_iff_ne]; exact fun q => h69 ((beq_nat c 69 (by decide)).1 q), expL_no c t (by simp [h101, h69])]
          refine Ev.step (fun k => by rw [decimal_Parse.j1]) ?_
          simp only [Bool.false_eq_true, if_false, B_toList, if_neg (show ¬ (c :: t = []) by simp)]
          exact Ev.now _
end

theorem cut_one (l : List UInt8) (c : UInt8) : strings_CutPrefix.f (B l) (B [c]) = some (if l.head? = some c then (B l.tail, true) else (B l, false)) := by
  unfold strings_CutPrefix.f Lib.trimPrefix Lib.hasPrefix
  simp only [B_data, B_mk]
  cases l with
  | nil => rfl
  | cons x l =>
    by_cases hx : c = x
    · subst hx; simp
    · have hx2 : ¬ x = c := fun q => hx q.symm
      simp [List.isPrefixOf, hx, hx2]

theorem behind_prog (neg : Bool) (a l2 : List UInt8) (h : a.length + l2.length ≤ 10000) :
    Ev (fun k => (strings_CutPrefix.f (B l2) (B [46])).bind fun bt172 => (if bt172.2 = true then ((decimal_digits.f bt172.1).bind fun bt174 => (decimal_Parse.j0 k bt174.2 neg (B a) bt174.1)) else (decimal_Parse.j0 k (B l2) neg (B a) (⟨#[]⟩ : ByteArray)))) (BQ (behindL neg a l2)) := by
  unfold behindL
  rw [cut_one]
  by_cases h46 : l2.head? = some 46
  · have hsp := span_len l2.tail
    have htl := List.length_tail (l := l2)
    simp only [if_pos h46, Option.bind_some, if_true, digits_eq l2.tail (by omega)]
    exact prog_end neg a _ (by omega) _ (by omega)
  · simp only [if_neg h46, Option.bind_some, Bool.false_eq_true, if_false]
    exact prog_end neg a [] (by simp; omega) l2 (by omega)

theorem Parse_eq (l : List UInt8) (h : l.length ≤ 9000) : Ev (fun k => decimal_Parse.f k (B l)) (BQ (parseL l)) := by
  unfold decimal_Parse.f parseL
  have e45 : (⟨#[45]⟩ : ByteArray) = B [45] := rfl
  have e46 : (⟨#[46]⟩ : ByteArray) = B [46] := rfl
  simp only [e45, e46, cut_one l 45, Option.bind_some]
  by_cases h45 : l.head? = some 45
  · have hsp := span_len l.tail
    have htl := List.length_tail (l := l)
    simp only [if_pos h45, digits_eq l.tail (by omega), Option.bind_some]
    exact behind_prog true _ _ (by omega)
  · have hsp := span_len l
    simp only [if_neg h45, digits_eq l (by omega), Option.bind_some]
    exact behind_prog false _ _ (by omega)
end Go.Proofs.YtneeeaafhjaooaaGreatDoor.P
