import Derived.Test.YtneeeaafhjaooaaDoorDecDq3
import Derived.Test.YtneeeaafhjaooaaDoorDecAq3
import Derived.Test.YtneeeaafhjaooaaDoorP0q3
import Derived.Test.YtneeeaafhjaooaaDoorProg
import Derived.Test.YtneeeaafhjaooaaDoorElibq3
import Derived.Test.YtneeeaafhjaooaaDoorShelfq3
import Derived.Test.YtneeeaafhjaooaaDoorP6q3
import Derived.Test.YtneeeaafhjaooaaDoorP11q3
import Derived.Test.YtneeeaafhjaooaaDoorP12q3
import Derived.Test.YtneeeaafhjaooaaDoorLibsq3
import Derived.Lib.ItoaLen
import Derived.Lib.ItoaMem
set_option linter.unusedSimpArgs false
set_option linter.unusedVariables false
set_option linter.unusedSectionVars false
namespace Go.Proofs.YtneeeaafhjaooaaDoor.P
set_option linter.all false
open Go.RowKit Go.Proofs.YtneeeaafhjaooaaDoorW.PrintWords Go.Proofs.YtneeeaafhjaooaaDoorW.PrintLast Go.Proofs.YtneeeaafhjaooaaDoorW.PrintMore

def bigL (p : Int) : List UInt8 := if p < 1 then 101 :: 45 :: Lib.decDigits (1 - p).toNat else 101 :: 43 :: Lib.decDigits (p - 1).toNat
def bodyL (l : List UInt8) (p : Int) : List UInt8 :=
  if l = [] then [48]
  else if 1 ≤ p ∧ p ≤ 21 then (if (l.length : Int) ≤ p then l ++ List.replicate (p.toNat - l.length) 48 else l.take p.toNat ++ 46 :: l.drop p.toNat)
  else if -5 ≤ p ∧ p ≤ 0 then 48 :: 46 :: (List.replicate (-p).toNat 48 ++ l)
  else l.take 1 ++ ((if 1 < l.length then 46 :: l.drop 1 else []) ++ bigL p)
def signL (neg : Bool) : List UInt8 := if neg = true then [45] else []
def printL (neg : Bool) (l : List UInt8) (e : Int) : List UInt8 := if rightL l e = true then signL neg ++ bodyL l (l.length + e) else []

theorem c45 : (⟨#[45]⟩ : ByteArray) = B [45] := rfl
theorem c46 : (⟨#[46]⟩ : ByteArray) = B [46] := rfl
theorem c48 : (⟨#[48]⟩ : ByteArray) = B [48] := rfl
theorem c4846 : (⟨#[48, 46]⟩ : ByteArray) = B [48, 46] := rfl
theorem cem : (⟨#[101, 45]⟩ : ByteArray) = B [101, 45] := rfl
theorem cep : (⟨#[101, 43]⟩ : ByteArray) = B [101, 43] := rfl
theorem signL_len (neg : Bool) : (signL neg).length ≤ 1 := by cases neg <;> simp [signL]
theorem itoa_nat (n : Nat) (h : n ≤ 1000000) : strconv_Itoa.f (n : Int) = some (B (Lib.decDigits n)) ∧ (Lib.decDigits n).length ≤ 21 := by
  unfold strconv_Itoa.f
  have := Lib.itoa_length_le (n : Int) (by omega) (by omega)
  rw [Lib.itoa_nonneg] at this ⊢
  rw [if_pos (by omega)]
  exact ⟨rfl, this⟩

section
variable (neg : Bool) (l : List UInt8) (e : Int) (s : List UInt8) (hs : s.length ≤ 1) (hl : l.length ≤ 1100) (h0 : l ≠ []) (p : Int) (hp0 : -100000 ≤ p) (hp1 : p ≤ 101100)
include hs hl h0 hp0 hp1

theorem prog_j4 (t : List UInt8) (ht : t.length ≤ 1200) : Ev (fun k => decimal_Print.j4 k (B t) p) (B (t ++ bigL p)) := by
  refine Ev.step (fun k => by rw [decimal_Print.j4]) ?_
  unfold bigL
  simp only [B_size, cem, cep, B_append, if_pos (show t.length + 2 ≤ 9223372036854775807 by omega)]
  by_cases hp : p < 1
  · obtain ⟨h1, h2⟩ := itoa_nat (1 - p).toNat (by omega)
    rw [show wrap64 (1 - p) = (((1 - p).toNat : Nat) : Int) by rw [w64 (by omega) (by omega)]; omega]
    simp only [if_pos hp, h1, Option.bind_some, B_size, B_append]
    rw [if_pos (by simp only [List.length_append, List.length_cons, List.length_nil]; omega)]
    simp only [List.append_assoc, List.cons_append, List.nil_append]
    exact Ev.now _
  · obtain ⟨h1, h2⟩ := itoa_nat (p - 1).toNat (by omega)
    rw [show wrap64 (p - 1) = (((p - 1).toNat : Nat) : Int) by rw [w64 (by omega) (by omega)]; omega]
    simp only [if_neg hp, h1, Option.bind_some, B_size, B_append]
    rw [if_pos (by simp only [List.length_append, List.length_cons, List.length_nil]; omega)]
    simp only [List.append_assoc, List.cons_append, List.nil_append]
    exact Ev.now _

theorem prog_pj3 : Ev (fun k => decimal_Print.j3 k (B s) p (l.length : Int) neg (B l) e) (B (s ++ (l.take 1 ++ ((if 1 < l.length then 46 :: l.drop 1 else []) ++ bigL p)))) := by
  have hpos : 0 < l.length := List.length_pos_iff.2 h0
  have ht1 : (l.take 1).length = 1 := by rw [List.length_take]; omega
  refine Ev.step (fun k => by rw [decimal_Print.j3]) ?_
  have hex1 : (B l).extract 0 1 = B (l.take 1) := by rw [B_extract]; simp
  have hex2 : (B l).extract 1 l.length = B (l.drop 1) := by rw [B_extract, List.take_length]
  simp only [if_pos (show (0 : Nat) ≤ 1 by omega), B_size, if_pos (show (1 : Int) ≤ (l.length : Int) by omega), hex1, hex2, ht1, c46, B_append, List.length_append, List.length_drop, List.length_cons, List.length_nil]
  simp only [if_pos (show s.length + 1 ≤ 9223372036854775807 by omega)]
  by_cases hn : 1 < l.length
  · simp only [if_pos (show ((l.length : Int) > 1) by omega), if_pos hn, if_pos (show 1 + (l.length - 1) ≤ 9223372036854775807 by omega), if_pos (show s.length + 1 + (0 + 1 + (l.length - 1)) ≤ 9223372036854775807 by omega)]
    have := prog_j4 l s hs hl h0 p hp0 hp1 (s ++ l.take 1 ++ ([46] ++ l.drop 1)) (by simp; omega)
    simpa only [List.append_assoc, List.cons_append, List.nil_append] using this
  · simp only [if_neg (show ¬ ((l.length : Int) > 1) by omega), if_neg hn, List.nil_append]
    have := prog_j4 l s hs hl h0 p hp0 hp1 (s ++ l.take 1) (by simp; omega)
    simpa only [List.append_assoc] using this

theorem prog_pj2 : Ev (fun k => decimal_Print.j2 k (B s) p (l.length : Int) false neg (B l) e) (B (s ++ (if -5 ≤ p ∧ p ≤ 0 then 48 :: 46 :: (List.replicate (-p).toNat 48 ++ l)
  else l.take 1 ++ ((if 1 < l.length then 46 :: l.drop 1 else []) ++ bigL p)))) := by
  have key := prog_pj3 neg l e s hs hl h0 p hp0 hp1
  refine Ev.step (fun k => by rw [decimal_Print.j2]) ?_
  simp only [Bool.false_eq_true, if_false, B_size]
  by_cases h5 : p ≥ -5
  · simp only [if_pos h5]
    by_cases hp : p ≤ 0
    · have hrep : ([48] : List UInt8).length * (-p).toNat ≤ 140737488355328 := by simp; omega
      simp only [if_pos hp, if_pos (show -5 ≤ p ∧ p ≤ 0 from ⟨h5, hp⟩), if_pos (show s.length + 2 ≤ 9223372036854775807 by omega), c48, c4846, strings_Repeat.f, B_size, B_data, repeatL_one, B_mk, B_append]
      rw [show wrap64 (-p) = -p by rw [w64 (by omega) (by omega)]]
      simp only [if_pos (show (0 ≤ -p ∧ -p ≤ 9223372036854775807 ∧ ([48] : List UInt8).length * (-p).toNat ≤ 140737488355328) from ⟨by omega, by omega, hrep⟩), Option.bind_some, B_size, List.length_replicate, B_append]
      simp only [if_pos (show s.length + 2 + (-p).toNat ≤ 9223372036854775807 by omega), if_pos (show s.length + 2 + (-p).toNat + l.length ≤ 9223372036854775807 by omega)]
      simp only [List.append_assoc, List.cons_append, List.nil_append]
      exact Ev.now _
    · simp only [if_neg hp, if_neg (show ¬ (-5 ≤ p ∧ p ≤ 0) from fun q => hp q.2)]
      exact key
  · simp only [if_neg h5, if_neg (show ¬ (-5 ≤ p ∧ p ≤ 0) from fun q => h5 q.1)]
    exact key

theorem prog_body : Ev (fun k => if p ≥ 1 then (if p ≤ 21 then (decimal_Print.j1 k (B s) p (l.length : Int) (decide (p ≥ (l.length : Int))) neg (B l) e) else (decimal_Print.j1 k (B s) p (l.length : Int) false neg (B l) e)) else (decimal_Print.j1 k (B s) p (l.length : Int) false neg (B l) e)) (B (s ++ bodyL l p)) := by
  have key := prog_pj2 neg l e s hs hl h0 p hp0 hp1
  unfold bodyL
  simp only [if_neg h0]
  by_cases h1 : p ≥ 1
  · simp only [if_pos h1]
    by_cases h2 : p ≤ 21
    · simp only [if_pos h2, if_pos (show 1 ≤ p ∧ p ≤ 21 from ⟨h1, h2⟩)]
      refine Ev.step (fun k => by rw [decimal_Print.j1]) ?_
      by_cases hn : (l.length : Int) ≤ p
      · have hrep : ([48] : List UInt8).length * (p.toNat - l.length) ≤ 140737488355328 := by simp; omega
        simp only [decide_eq_true (show p ≥ (l.length : Int) from hn), if_true, B_size, if_pos hn, if_pos (show s.length + l.length ≤ 9223372036854775807 by omega), c48, strings_Repeat.f, B_data, repeatL_one, B_mk, B_append]
        rw [show wrap64 (p - (l.length : Int)) = ((p.toNat - l.length : Nat) : Int) by rw [w64 (by omega) (by omega)]; omega]
        simp only [Int.toNat_natCast, if_pos (show (0 ≤ ((p.toNat - l.length : Nat) : Int) ∧ ((p.toNat - l.length : Nat) : Int) ≤ 9223372036854775807 ∧ ([48] : List UInt8).length * (p.toNat - l.length) ≤ 140737488355328) from ⟨by omega, by omega, hrep⟩), Option.bind_some, B_size, List.length_replicate, B_append]
        rw [if_pos (by omega)]
        simp only [List.append_assoc]
        exact Ev.now _
      · simp only [decide_eq_false (show ¬ (p ≥ (l.length : Int)) from hn), Bool.false_eq_true, if_false, if_pos h1, if_neg hn, decide_eq_true h2]
        refine Ev.step (fun k => by rw [decimal_Print.j2]) ?_
        have hex1 : (B l).extract 0 p.toNat = B (l.take p.toNat) := by rw [B_extract]; simp
        have hex2 : (B l).extract p.toNat l.length = B (l.drop p.toNat) := by rw [B_extract, List.take_length]
        simp only [if_true, B_size, if_pos (show 0 ≤ p by omega), if_pos (show p ≤ (l.length : Int) by omega), if_pos (show s.length + p.toNat ≤ 9223372036854775807 by omega), if_pos (show s.length + p.toNat + 1 ≤ 9223372036854775807 by omega), if_pos (show s.length + p.toNat + 1 + (l.length - p.toNat) ≤ 9223372036854775807 by omega), hex1, hex2, c46, B_append]
        simp only [List.append_assoc, List.cons_append, List.nil_append]
        exact Ev.now _
    · simp only [if_neg h2, if_neg (show ¬ (1 ≤ p ∧ p ≤ 21) from fun q => h2 q.2)]
      refine Ev.step (fun k => by rw [decimal_Print.j1]) ?_
      simp only [Bool.false_eq_true, if_false, if_pos h1, decide_eq_false h2]
      exact key
  · simp only [if_neg h1, if_neg (show ¬ (1 ≤ p ∧ p ≤ 21) from fun q => h1 q.1)]
    refine Ev.step (fun k => by rw [decimal_Print.j1]) ?_
    simp only [Bool.false_eq_true, if_false, if_neg h1]
    exact key
end

theorem Print_eq (neg : Bool) (l : List UInt8) (e : Int) (hl : l.length ≤ 9223372036854775806) : Ev (fun k => decimal_Print.f k neg (B l) e) (B (printL neg l e)) := by
  unfold decimal_Print.f printL
  simp only [Right_eq neg l e (by omega), Option.bind_some]
  by_cases hr : rightL l e = true
  · obtain ⟨hd, hlen, he0, he1, hz⟩ := right_facts hr
    simp only [if_pos hr]
    have go : ∀ s : List UInt8, s.length ≤ 1 → Ev (fun k => decimal_Print.j0 k (B s) neg (B l) e) (B (s ++ bodyL l (l.length + e))) := by
      intro s hs
      refine Ev.step (fun k => by rw [decimal_Print.j0]) ?_
      simp only [Point_eq neg l e hl, if_pos hr, Option.bind_some, B_size]
      by_cases h0 : l = []
      · subst h0
        simp only [List.length_nil, Int.natCast_zero, if_true, if_pos (show s.length + 1 ≤ 9223372036854775807 by omega), c48, B_append]
        exact Ev.now _
      · have hpos : 0 < l.length := List.length_pos_iff.2 h0
        simp only [if_neg (show ¬ ((l.length : Int) = 0) by omega)]
        exact prog_body neg l e s hs hlen h0 _ (by omega) (by omega)
    cases neg with
    | true => simp only [if_true, c45]; exact go [45] (by simp)
    | false => simp only [Bool.false_eq_true, if_false, mk0]; exact go [] (by simp)
  · simp only [if_neg hr, mk0]
    exact Ev.now _

/-! ### the reference -/
theorem digit_at : ∀ i : Fin 10, (([48, 49, 50, 51, 52, 53, 54, 55, 56, 57] : List UInt8).take (i.val + 1)).drop i.val = [UInt8.ofNat (48 + i.val)] := by decide
theorem number_eq (n : Nat) : n ≤ 1000000 → Ev (fun k => tabardref7_number.f k (n : Int)) (B (Lib.decDigits n)) := by
  induction n using Nat.strongRecOn with
  | _ n ih =>
    intro hn
    refine Ev.step (fun k => by rw [tabardref7_number.f]) ?_
    by_cases h : n < 10
    · rw [show wrap64 ((n : Int) + 1) = ((n + 1 : Nat) : Int) by rw [w64 (by omega) (by omega)]; rfl]
      simp only [if_pos (show ((n : Int) < 10) by omega), if_pos (show (0 : Int) ≤ (n : Int) by omega), if_pos (show (n : Int) ≤ ((n + 1 : Nat) : Int) by omega), if_pos (show ((n + 1 : Nat) : Int) ≤ 10 by omega), Int.toNat_natCast]
      have e1 : (⟨#[48, 49, 50, 51, 52, 53, 54, 55, 56, 57]⟩ : ByteArray) = B [48, 49, 50, 51, 52, 53, 54, 55, 56, 57] := rfl
      rw [e1, B_extract, digit_at ⟨n, h⟩, Lib.decDigits_one h]
      exact Ev.now _
    · have h1 : wrap64 (Int.tdiv (n : Int) 10) = ((n / 10 : Nat) : Int) := by
        rw [Int.tdiv_eq_ediv_of_nonneg (by omega), w64 (by omega) (by omega)]; omega
      have h2 : Int.tmod (n : Int) 10 = ((n % 10 : Nat) : Int) := by
        rw [Int.tmod_eq_emod_of_nonneg (by omega)]; omega
      simp only [if_neg (show ¬ ((n : Int) < 10) by omega), h1, h2]
      refine Ev.bind (ih (n / 10) (by omega) (by omega)) ?_
      refine Ev.bind (ih (n % 10) (by omega) (by omega)) ?_
      have e2 : Lib.decDigits n = Lib.decDigits (n / 10) ++ Lib.decDigits (n % 10) := by
        rw [Lib.decDigits_one (show n % 10 < 10 by omega), Lib.decDigits.eq_1 n, dif_neg h]
      obtain ⟨_, q1⟩ := itoa_nat (n / 10) (by omega)
      obtain ⟨_, q2⟩ := itoa_nat (n % 10) (by omega)
      simp only [B_size, if_pos (show (Lib.decDigits (n / 10)).length + (Lib.decDigits (n % 10)).length ≤ 9223372036854775807 by omega), B_append]
      rw [e2]
      exact Ev.now _

section
variable (neg : Bool) (l : List UInt8) (e : Int) (s : List UInt8) (hs : s.length ≤ 1) (hl : l.length ≤ 1100) (h0 : l ≠ []) (he0 : -100000 ≤ e) (he1 : e ≤ 100000) (p : Int) (hpe : p = l.length + e)
include hs hl h0 he0 he1 hpe

theorem ref_pj6 (t : List UInt8) (ht : t.length ≤ 1200) : Ev (fun k => tabardref7_Print.j6 k (B t) p) (B (t ++ bigL p)) := by
  refine Ev.step (fun k => by rw [tabardref7_Print.j6]) ?_
  unfold bigL
  rw [show wrap64 (p - 1) = p - 1 by rw [w64 (by omega) (by omega)], show wrap64 (1 - p) = 1 - p by rw [w64 (by omega) (by omega)]]
  simp only [B_size, cem, cep, B_append, if_pos (show t.length + 2 ≤ 9223372036854775807 by omega)]
  by_cases hp : p < 1
  · obtain ⟨h1, h2⟩ := itoa_nat (1 - p).toNat (by omega)
    have hnum := number_eq (1 - p).toNat (by omega)
    rw [show (((1 - p).toNat : Nat) : Int) = 1 - p by omega] at hnum
    simp only [if_pos (show p - 1 < 0 by omega), if_pos hp]
    refine Ev.bind hnum ?_
    simp only [B_size, List.length_append, List.length_cons, List.length_nil, B_append]
    simp only [if_pos (show t.length + (0 + 1 + 1) + (Lib.decDigits (1 - p).toNat).length ≤ 9223372036854775807 by omega), List.append_assoc, List.cons_append, List.nil_append]
    exact Ev.now _
  · obtain ⟨h1, h2⟩ := itoa_nat (p - 1).toNat (by omega)
    have hnum := number_eq (p - 1).toNat (by omega)
    rw [show (((p - 1).toNat : Nat) : Int) = p - 1 by omega] at hnum
    simp only [if_neg (show ¬ (p - 1 < 0) by omega), if_neg hp]
    refine Ev.bind hnum ?_
    simp only [B_size, List.length_append, List.length_cons, List.length_nil, B_append]
    simp only [if_pos (show t.length + (0 + 1 + 1) + (Lib.decDigits (p - 1).toNat).length ≤ 9223372036854775807 by omega), List.append_assoc, List.cons_append, List.nil_append]
    exact Ev.now _

theorem ref_pl1 (d : Nat) : ∀ (i : Nat), (i : Int) ≤ -p → p ≤ 0 → (-p).toNat - i = d → Ev (fun k => tabardref7_Print.l1 k (B (s ++ 48 :: 46 :: List.replicate i 48)) p (i : Int) neg (B l) e) (B (s ++ 48 :: 46 :: (List.replicate (-p).toNat 48 ++ l))) := by
  induction d with
  | zero =>
    intro i hi hp hd
    refine Ev.step (fun k => by rw [tabardref7_Print.l1]) ?_
    rw [show wrap64 (-p) = -p by rw [w64 (by omega) (by omega)]]
    simp only [if_neg (show ¬ ((i : Int) < -p) by omega), B_size, List.length_append, List.length_cons, List.length_replicate, B_append]
    rw [show (-p).toNat = i by omega]
    simp only [if_pos (show s.length + (i + 1 + 1) + l.length ≤ 9223372036854775807 by omega), List.append_assoc, List.cons_append]
    exact Ev.now _
  | succ d ih =>
    intro i hi hp hd
    refine Ev.step (fun k => by rw [tabardref7_Print.l1]) ?_
    rw [show wrap64 (-p) = -p by rw [w64 (by omega) (by omega)]]
    simp only [if_pos (show ((i : Int) < -p) by omega), B_size, List.length_append, List.length_cons, List.length_replicate, c48, B_append]
    rw [show wrap64 ((i : Int) + 1) = ((i + 1 : Nat) : Int) by rw [w64 (by omega) (by omega)]; rfl]
    simp only [if_pos (show s.length + (i + 1 + 1) + 1 ≤ 9223372036854775807 by omega)]
    have := ih (i + 1) (by omega) hp (by omega)
    rw [List.replicate_succ'] at this
    simpa only [List.append_assoc, List.cons_append] using this

theorem ref_pj4 (b : Bool) (hb : b = decide (-5 ≤ p ∧ p ≤ 0)) : Ev (fun k => tabardref7_Print.j4 k (B s) p (l.length : Int) b neg (B l) e) (B (s ++ (if -5 ≤ p ∧ p ≤ 0 then 48 :: 46 :: (List.replicate (-p).toNat 48 ++ l)
  else l.take 1 ++ ((if 1 < l.length then 46 :: l.drop 1 else []) ++ bigL p)))) := by
  have hpos : 0 < l.length := List.length_pos_iff.2 h0
  have ht1 : (l.take 1).length = 1 := by rw [List.length_take]; omega
  refine Ev.step (fun k => by rw [tabardref7_Print.j4]) ?_
  by_cases h5 : -5 ≤ p ∧ p ≤ 0
  · rw [hb, decide_eq_true h5]
    simp only [if_true, if_pos h5, B_size, if_pos (show s.length + 2 ≤ 9223372036854775807 by omega), c4846, B_append]
    have := ref_pl1 neg l e s hs hl h0 he0 he1 p hpe _ 0 (by omega) h5.2 rfl
    simpa using this
  · rw [hb, decide_eq_false h5]
    have hex1 : (B l).extract 0 1 = B (l.take 1) := by rw [B_extract]; simp
    have hex2 : (B l).extract 1 l.length = B (l.drop 1) := by rw [B_extract, List.take_length]
    simp only [Bool.false_eq_true, if_false, if_neg h5, if_pos (show (0 : Nat) ≤ 1 by omega), B_size, if_pos (show (1 : Int) ≤ (l.length : Int) by omega), hex1, hex2, ht1, c46, B_append, List.length_append, List.length_drop, List.length_cons, List.length_nil]
    simp only [if_pos (show s.length + 1 ≤ 9223372036854775807 by omega)]
    by_cases hn : 1 < l.length
    · simp only [if_pos (show ((l.length : Int) > 1) by omega), if_pos hn, if_pos (show s.length + 1 + 1 ≤ 9223372036854775807 by omega), if_pos (show s.length + 1 + (0 + 1) + (l.length - 1) ≤ 9223372036854775807 by omega)]
      have := ref_pj6 l e s hs hl h0 he0 he1 p hpe (s ++ l.take 1 ++ [46] ++ l.drop 1) (by simp; omega)
      simpa only [List.append_assoc, List.cons_append, List.nil_append] using this
    · simp only [if_neg (show ¬ ((l.length : Int) > 1) by omega), if_neg hn, List.nil_append]
      have := ref_pj6 l e s hs hl h0 he0 he1 p hpe (s ++ l.take 1) (by simp; omega)
      simpa only [List.append_assoc] using this

omit hs in
theorem at_eq (i : Nat) (hi : i ≤ 2000) : tabardref7_at.f neg (B l) e (wrap64 ((wrap64 (p - 1)) - (i : Int))) = some ((l.getD i 48).toNat : Int) := by
  have hpos : 0 < l.length := List.length_pos_iff.2 h0
  unfold tabardref7_at.f
  rw [show wrap64 (p - 1) = p - 1 by rw [w64 (by omega) (by omega)], w64 (x := p - 1 - (i : Int)) (by omega) (by omega), B_size,
    w64 (x := (l.length : Int) - 1) (by omega) (by omega), w64 (x := (l.length : Int) - 1 + e) (by omega) (by omega), w64 (by omega) (by omega),
    show (l.length : Int) - 1 + e - (p - 1 - (i : Int)) = (i : Int) by omega, if_neg (by omega)]
  by_cases h : i < l.length
  · rw [if_neg (by omega), if_pos (by omega), if_pos (by omega), B_bt, Int.toNat_natCast, List.getD, List.getD, List.getElem?_eq_getElem h]; rfl
  · rw [if_pos (by omega), List.getD, List.getElem?_eq_none (by omega)]; rfl

theorem ref_pl0_ge (F : List UInt8) (hF : F = l ++ List.replicate (p.toNat - l.length) 48) (hp : p ≤ 21) (hn : (l.length : Int) ≤ p) (d : Nat) : ∀ (i : Nat), (i : Int) ≤ p → p.toNat - i = d →
    Ev (fun k => tabardref7_Print.l0 k (B (s ++ F.take i)) p (l.length : Int) (i : Int) neg (B l) e) (B (s ++ F)) := by
  have hFl : F.length = p.toNat := by rw [hF, List.length_append, List.length_replicate]; omega
  induction d with
  | zero =>
    intro i hi hd
    refine Ev.step (fun k => by rw [tabardref7_Print.l0]) ?_
    simp only [if_neg (show ¬ ((i : Int) < p) by omega), decide_eq_false (show ¬ ((i : Int) < (l.length : Int)) by omega)]
    refine Ev.step (fun k => by rw [tabardref7_Print.j3]) ?_
    simp only [Bool.false_eq_true, if_false]
    rw [List.take_of_length_le (by omega)]
    exact Ev.now _
  | succ d ih =>
    intro i hi hd
    refine Ev.step (fun k => by rw [tabardref7_Print.l0]) ?_
    simp only [if_pos (show ((i : Int) < p) by omega)]
    refine Ev.step (fun k => by rw [tabardref7_Print.j3]) ?_
    have hat := at_eq neg l e hl h0 he0 he1 p hpe i (by omega)
    have hstr : strOfNums [((l.getD i 48).toNat : Int)] = B [l.getD i 48] := B_nums [l.getD i 48]
    simp only [if_true, if_neg (show ¬ ((i : Int) = p) by omega), hat, Option.bind_some, hstr, B_size, List.length_append, List.length_cons, List.length_nil, B_append, List.length_take]
    simp only [if_pos (show s.length + min i F.length + (0 + 1) ≤ 9223372036854775807 by omega)]
    rw [show wrap64 ((i : Int) + 1) = ((i + 1 : Nat) : Int) by rw [w64 (by omega) (by omega)]; rfl]
    have hg : F.take i ++ [l.getD i 48] = F.take (i + 1) := by
      rw [List.take_succ_eq_append_getElem (by omega)]
      congr 2
      subst hF
      rw [List.getElem_append]
      split
      · rename_i h; rw [List.getD, List.getElem?_eq_getElem h]; rfl
      · rename_i h; rw [List.getElem_replicate, List.getD, List.getElem?_eq_none (by omega)]; rfl
    rw [List.append_assoc, hg]
    exact ih (i + 1) (by omega) (by omega)

theorem ref_pl0_lt (G : List UInt8) (hG : G = l.take p.toNat ++ 46 :: l.drop p.toNat) (hp1 : 1 ≤ p) (hp : p ≤ 21) (hn : p < (l.length : Int)) (d : Nat) : ∀ (i : Nat), i ≤ l.length → l.length - i = d →
    Ev (fun k => tabardref7_Print.l0 k (B (s ++ G.take (if i ≤ p.toNat then i else i + 1))) p (l.length : Int) (i : Int) neg (B l) e) (B (s ++ G)) := by
  have hGl : G.length = l.length + 1 := by rw [hG, List.length_append, List.length_cons, List.length_take, List.length_drop]; omega
  have hGlo : ∀ i, (h : i < p.toNat) → G[i]'(by omega) = l.getD i 48 := by
    intro i h; subst hG
    rw [List.getElem_append_left (by rw [List.length_take]; omega), List.getElem_take, List.getD, List.getElem?_eq_getElem (by omega)]; rfl
  have hGmid : G[p.toNat]'(by omega) = 46 := by
    subst hG
    rw [List.getElem_append_right (by rw [List.length_take]; omega)]
    simp only [List.length_take, Nat.min_eq_left (show p.toNat ≤ l.length by omega), Nat.sub_self, List.getElem_cons_zero]
  have hGhi : ∀ i, (h : p.toNat ≤ i) → (h2 : i < l.length) → G[i + 1]'(by omega) = l.getD i 48 := by
    intro i h h2; subst hG
    rw [List.getElem_append_right (by rw [List.length_take]; omega)]
    simp only [List.length_take, Nat.min_eq_left (show p.toNat ≤ l.length by omega), show i + 1 - p.toNat = (i - p.toNat) + 1 by omega, List.getElem_cons_succ, List.getElem_drop]
    rw [List.getD, List.getElem?_eq_getElem h2]
    simp only [show p.toNat + (i - p.toNat) = i by omega]; rfl
  induction d with
  | zero =>
    intro i hi hd
    refine Ev.step (fun k => by rw [tabardref7_Print.l0]) ?_
    simp only [if_neg (show ¬ ((i : Int) < p) by omega), decide_eq_false (show ¬ ((i : Int) < (l.length : Int)) by omega)]
    refine Ev.step (fun k => by rw [tabardref7_Print.j3]) ?_
    simp only [Bool.false_eq_true, if_false, if_neg (show ¬ (i ≤ p.toNat) by omega)]
    rw [List.take_of_length_le (by omega)]
    exact Ev.now _
  | succ d ih =>
    intro i hi hd
    have hnext := ih (i + 1) (by omega) (by omega)
    have hround : ∀ b : Bool, b = true → Ev (fun k => tabardref7_Print.j3 k (B (s ++ G.take (if i ≤ p.toNat then i else i + 1))) p (l.length : Int) (i : Int) b neg (B l) e) (B (s ++ G)) := by
      rintro b rfl
      refine Ev.step (fun k => by rw [tabardref7_Print.j3]) ?_
      have hat := at_eq neg l e hl h0 he0 he1 p hpe i (by omega)
      have hstr : strOfNums [((l.getD i 48).toNat : Int)] = B [l.getD i 48] := B_nums [l.getD i 48]
      have hw : wrap64 ((i : Int) + 1) = ((i + 1 : Nat) : Int) := by rw [w64 (by omega) (by omega)]; rfl
      simp only [if_true, hat, Option.bind_some, hstr, hw, B_size, c46, B_append, List.length_append, List.length_cons, List.length_nil, List.length_take]
      have hbd : ∀ n : Nat, min n G.length ≤ 2000 := by intro n; omega
      by_cases hip : (i : Int) = p
      · have e1 : i = p.toNat := by omega
        have hb1 := hbd (if i ≤ p.toNat then i else i + 1)
        simp only [if_pos hip]
        rw [if_pos (show i ≤ p.toNat by omega)] at hb1 ⊢
        rw [if_neg (show ¬ (i + 1 ≤ p.toNat) by omega)] at hnext
        simp only [if_pos (show s.length + min i G.length + 1 ≤ 9223372036854775807 by omega), if_pos (show s.length + min i G.length + (0 + 1) + (0 + 1) ≤ 9223372036854775807 by omega)]
        have hg : G.take i ++ [46] ++ [l.getD i 48] = G.take (i + 1 + 1) := by
          rw [List.take_succ_eq_append_getElem (by omega), List.take_succ_eq_append_getElem (by omega), hGhi i (by omega) (by omega)]
          congr 3
          have := hGmid
          simp only [← e1] at this
          exact this.symm
        rw [List.append_assoc s, List.append_assoc s, hg]
        exact hnext
      · simp only [if_neg hip]
        by_cases hlt : i < p.toNat
        · have hb1 := hbd i
          rw [if_pos (show i ≤ p.toNat by omega)]
          rw [if_pos (show i + 1 ≤ p.toNat by omega)] at hnext
          simp only [if_pos (show s.length + min i G.length + (0 + 1) ≤ 9223372036854775807 by omega)]
          have hg : G.take i ++ [l.getD i 48] = G.take (i + 1) := by rw [List.take_succ_eq_append_getElem (by omega), hGlo i hlt]
          rw [List.append_assoc s, hg]
          exact hnext
        · have hb1 := hbd (i + 1)
          rw [if_neg (show ¬ (i ≤ p.toNat) by omega)]
          rw [if_neg (show ¬ (i + 1 ≤ p.toNat) by omega)] at hnext
          simp only [if_pos (show s.length + min (i + 1) G.length + (0 + 1) ≤ 9223372036854775807 by omega)]
          have hg : G.take (i + 1) ++ [l.getD i 48] = G.take (i + 1 + 1) := by rw [List.take_succ_eq_append_getElem (show i + 1 < G.length by omega), hGhi i (by omega) (by omega)]
          rw [List.append_assoc s, hg]
          exact hnext
    refine Ev.step (fun k => by rw [tabardref7_Print.l0]) ?_
    by_cases hlt : (i : Int) < p
    · simp only [if_pos hlt]
      exact hround true rfl
    · simp only [if_neg hlt]
      exact hround _ (decide_eq_true (by omega))

theorem ref_body : Ev (fun k => if p ≥ 1 then (tabardref7_Print.j1 k (B s) p (l.length : Int) (decide (p ≤ 21)) neg (B l) e) else (tabardref7_Print.j1 k (B s) p (l.length : Int) false neg (B l) e)) (B (s ++ bodyL l p)) := by
  have key : ∀ b : Bool, b = decide (-5 ≤ p ∧ p ≤ 0) → _ := fun b => ref_pj4 neg l e s hs hl h0 he0 he1 p hpe b
  have hno : Ev (fun k => tabardref7_Print.j1 k (B s) p (l.length : Int) false neg (B l) e) (B (s ++ (if -5 ≤ p ∧ p ≤ 0 then 48 :: 46 :: (List.replicate (-p).toNat 48 ++ l)
      else l.take 1 ++ ((if 1 < l.length then 46 :: l.drop 1 else []) ++ bigL p)))) := by
    refine Ev.step (fun k => by rw [tabardref7_Print.j1]) ?_
    simp only [Bool.false_eq_true, if_false]
    by_cases h5 : p ≥ -5
    · simp only [if_pos h5]
      refine key _ ?_
      rw [decide_eq_decide]; exact ⟨fun q => ⟨h5, q⟩, fun q => q.2⟩
    · simp only [if_neg h5]
      refine key _ ?_
      exact (decide_eq_false (fun q => h5 q.1)).symm
  unfold bodyL
  simp only [if_neg h0]
  by_cases h1 : p ≥ 1
  · simp only [if_pos h1]
    by_cases h2 : p ≤ 21
    · simp only [decide_eq_true h2, if_pos (show 1 ≤ p ∧ p ≤ 21 from ⟨h1, h2⟩)]
      refine Ev.step (fun k => by rw [tabardref7_Print.j1]) ?_
      simp only [if_true]
      by_cases hn : (l.length : Int) ≤ p
      · have := ref_pl0_ge neg l e s hs hl h0 he0 he1 p hpe _ rfl h2 hn _ 0 (by omega) rfl
        simp only [if_pos hn]
        simpa using this
      · have := ref_pl0_lt neg l e s hs hl h0 he0 he1 p hpe _ rfl h1 h2 (by omega) _ 0 (by omega) rfl
        simp only [if_neg hn]
        simpa using this
    · simp only [decide_eq_false h2, if_neg (show ¬ (1 ≤ p ∧ p ≤ 21) from fun q => h2 q.2)]
      exact hno
  · simp only [if_neg h1, if_neg (show ¬ (1 ≤ p ∧ p ≤ 21) from fun q => h1 q.1)]
    exact hno
end

theorem refPrint (neg : Bool) (l : List UInt8) (e : Int) (hl : l.length ≤ 9223372036854775806) : Ev (fun k => tabardref7_Print.f k neg (B l) e) (B (printL neg l e)) := by
  unfold tabardref7_Print.f printL
  refine Ev.bind (refRight neg l e hl) ?_
  by_cases hr : rightL l e = true
  · obtain ⟨hd, hlen, he0, he1, hz⟩ := right_facts hr
    simp only [if_pos hr]
    have go : ∀ s : List UInt8, s.length ≤ 1 → Ev (fun k => tabardref7_Print.j0 k (B s) neg (B l) e) (B (s ++ bodyL l (l.length + e))) := by
      intro s hs
      refine Ev.step (fun k => by rw [tabardref7_Print.j0]) ?_
      refine Ev.bind (refPoint_eq neg l e hl) ?_
      simp only [if_pos hr, B_size]
      by_cases h0 : l = []
      · subst h0
        simp only [List.length_nil, Int.natCast_zero, if_true, if_pos (show s.length + 1 ≤ 9223372036854775807 by omega), c48, B_append]
        exact Ev.now _
      · have hpos : 0 < l.length := List.length_pos_iff.2 h0
        simp only [if_neg (show ¬ ((l.length : Int) = 0) by omega)]
        exact ref_body neg l e s hs hlen h0 he0 he1 _ rfl
    cases neg with
    | true => simp only [if_true, c45]; exact go [45] (by simp)
    | false => simp only [Bool.false_eq_true, if_false, mk0]; exact go [] (by simp)
  · simp only [if_neg hr, mk0]
    exact Ev.now _
end Go.Proofs.YtneeeaafhjaooaaDoor.P
