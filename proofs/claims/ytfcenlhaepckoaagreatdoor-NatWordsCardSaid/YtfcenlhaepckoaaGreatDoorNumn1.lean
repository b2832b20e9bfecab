import Derived.Test.YtfcenlhaepckoaaGreatDoorBn1
import Derived.Lib.Strings
import Derived.Lib.Repeat
import Derived.Lib.SlTrimSet
import Derived.Lib.Bytealg
import Derived.Lib.Atoi
import Derived.Lib.ItoaNum
import Derived.OrdersHeld
import Derived.Deep.RegionHeld3
import Derived.Laws.BitsLemmas
import Derived.RowKit
import Derived.Below
import Derived.Deep.Draws
import Derived.Deep.AppendLies
import Derived.Maps.AppendAt
import Derived.OwnWalk
import Derived.Laws.BytesArg
import Derived.Laws.MakeOwn
import Derived.Laws.OwnMore
import Derived.Deep.OwnRows
import Derived.Tactics
import Derived.Lib.ConvBytes
import Derived.Laws.Slices
import Derived.WalkKit
import Derived.KernelRfl
import Derived.RowKit3
import Derived.Deep.LoopGhost
import Derived.Deep.QuietTactic
import Derived.BigQuiet
import Derived.WideLaws
import Derived.Deep.DeepCutAuto
import Derived.Deep.CutBlock
import Derived.Laws.Rows
import Derived.Lib.AppendStr
import Derived.ArgAppend
import Derived.Laws.IdiomCopy
set_option linter.unusedSimpArgs false
set_option linter.unusedVariables false
namespace Go.Proofs.YtfcenlhaepckoaaGreatDoor.P
set_option linter.all false
open Go.RowKit Go.Proofs.YtfcenlhaepckoaaGreatDoorW.PrintWords

/-- The number that digits spell. -/
def natFrom (a : Nat) (l : List UInt8) : Nat := l.foldl (fun a b => a * 10 + (b.toNat - 48)) a
def natL (l : List UInt8) : Nat := natFrom 0 l
theorem natFrom_cons (a : Nat) (b : UInt8) (l : List UInt8) : natFrom a (b :: l) = natFrom (a * 10 + (b.toNat - 48)) l := by unfold natFrom; rw [List.foldl_cons]
theorem natFrom_lt (l : List UInt8) (h : l.all isDig = true) : ∀ a, natFrom a l < (a + 1) * 10 ^ l.length := by
  induction l with
  | nil => intro a; simp [natFrom]
  | cons b l ih =>
    intro a
    rw [List.all_cons, Bool.and_eq_true] at h
    have hb := (isDig_iff b).1 h.1
    have := ih h.2 (a * 10 + (b.toNat - 48))
    rw [natFrom_cons, List.length_cons, Nat.pow_succ]
    refine Nat.lt_of_lt_of_le this ?_
    rw [show (a + 1) * (10 ^ l.length * 10) = ((a + 1) * 10) * 10 ^ l.length by rw [Nat.mul_comm (10 ^ l.length), Nat.mul_assoc]]
    exact Nat.mul_le_mul_right _ (by omega)
theorem decFrom_eq (l : List UInt8) (h : l.all isDig = true) : ∀ a, Lib.decFrom a l = some (natFrom a l) := by
  induction l with
  | nil => intro a; rfl
  | cons b l ih =>
    intro a
    rw [List.all_cons, Bool.and_eq_true] at h
    have hb := (isDig_iff b).1 h.1
    simp only [Lib.decFrom, Lib.digitVal, if_pos hb, natFrom_cons]
    exact ih h.2 _
theorem atoi_digits (l : List UInt8) (h : l.all isDig = true) (h0 : l ≠ []) : Lib.atoi l = some (natL l : Int) := by
  cases l with
  | nil => exact absurd rfl h0
  | cons b l =>
    have h' := h
    rw [List.all_cons, Bool.and_eq_true] at h'
    have hb := (isDig_iff b).1 h'.1
    have h45 : (b == 45) = false := by rw [beq_eq_false_iff_ne]; rintro rfl; revert hb; decide
    have h43 : (b == 43) = false := by rw [beq_eq_false_iff_ne]; rintro rfl; revert hb; decide
    unfold Lib.atoi
    simp only [h45, h43, Bool.false_eq_true, if_false, Lib.decNat, List.isEmpty_cons]
    rw [decFrom_eq _ h]; rfl

/-- k digits of r, with noughts ahead. -/
def padK : Nat → Nat → List UInt8
  | 0, _ => []
  | k + 1, r => padK k (r / 10) ++ [UInt8.ofNat (48 + r % 10)]
theorem padK_length : ∀ k r, (padK k r).length = k := by
  intro k
  induction k with
  | zero => intro r; rfl
  | succ k ih => intro r; simp [padK, ih]
theorem padK_zero : ∀ k, padK k 0 = List.replicate k 48 := by
  intro k
  induction k with
  | zero => rfl
  | succ k ih => rw [padK, ih, List.replicate_succ']; rfl
theorem dd_small {u : Nat} (h : u < 10) : Lib.decDigits u = [UInt8.ofNat (48 + u)] := by rw [Lib.decDigits, dif_pos h]
theorem dd_big {u : Nat} (h : ¬ u < 10) : Lib.decDigits u = Lib.decDigits (u / 10) ++ [UInt8.ofNat (48 + u % 10)] := by rw [Lib.decDigits, dif_neg h]
theorem dd_join : ∀ k q r, 0 < q → r < 10 ^ k → Lib.decDigits (q * 10 ^ k + r) = Lib.decDigits q ++ padK k r := by
  intro k
  induction k with
  | zero => intro q r hq hr; have : r = 0 := by simpa using hr
            subst this; simp [padK]
  | succ k ih =>
    intro q r hq hr
    rw [Nat.pow_succ] at hr
    have hp : 0 < 10 ^ k := Nat.pow_pos (by decide)
    have e : q * 10 ^ (k + 1) + r = (q * 10 ^ k + r / 10) * 10 + r % 10 := by rw [Nat.pow_succ, ← Nat.mul_assoc]; omega
    have h1 : 10 ^ k ≤ q * 10 ^ k := Nat.le_mul_of_pos_left _ hq
    rw [e, dd_big (by omega), show ((q * 10 ^ k + r / 10) * 10 + r % 10) / 10 = q * 10 ^ k + r / 10 by omega, show ((q * 10 ^ k + r / 10) * 10 + r % 10) % 10 = r % 10 by omega, ih q (r / 10) hq (by omega), padK, List.append_assoc]
theorem dd_pad : ∀ k r, 0 < k → r < 10 ^ k → (Lib.decDigits r).length ≤ k ∧ List.replicate (k - (Lib.decDigits r).length) 48 ++ Lib.decDigits r = padK k r := by
  intro k
  induction k with
  | zero => intro r hk; omega
  | succ k ih =>
    intro r hk hr
    by_cases h : r < 10
    · rw [dd_small h, padK, show r / 10 = 0 by omega, show r % 10 = r by omega, padK_zero]
      exact ⟨by simp, by simp⟩
    · rw [Nat.pow_succ] at hr
      have hk0 : 0 < k := by
        cases k with
        | zero => simp at hr; omega
        | succ k => omega
      obtain ⟨h1, h2⟩ := ih (r / 10) hk0 (by omega)
      rw [dd_big h, padK, ← h2]
      refine ⟨by simp; omega, ?_⟩
      rw [List.length_append, List.length_singleton, show k + 1 - ((Lib.decDigits (r / 10)).length + 1) = k - (Lib.decDigits (r / 10)).length by omega, List.append_assoc]
theorem natFrom_add (a : Nat) (l : List UInt8) : natFrom a l = a * 10 ^ l.length + natL l := by
  induction l generalizing a with
  | nil => simp [natFrom, natL]
  | cons b l ih =>
    unfold natL
    rw [natFrom_cons, natFrom_cons, ih (a * 10 + (b.toNat - 48)), ih (0 * 10 + (b.toNat - 48)), List.length_cons, Nat.pow_succ, Nat.add_mul, Nat.mul_assoc, Nat.mul_comm 10, Nat.zero_mul, Nat.zero_add]; omega
theorem natL_append (a b : List UInt8) : natL (a ++ b) = natL a * 10 ^ b.length + natL b := by
  rw [← natFrom_add]; unfold natL natFrom; rw [List.foldl_append]
theorem natL_trimL (l : List UInt8) : natL (trimL l) = natL l := by
  unfold trimL
  induction l with
  | nil => rfl
  | cons b l ih =>
    by_cases h : b = 48
    · subst h
      rw [List.dropWhile_cons_of_pos (by rfl), ih]
      unfold natL
      rw [natFrom_cons]; rfl
    · rw [List.dropWhile_cons_of_neg (by simpa using h)]
theorem trimL_len (l : List UInt8) : (trimL l).length ≤ l.length := by
  unfold trimL
  exact (List.dropWhile_sublist _).length_le
theorem trimL_all {l : List UInt8} (h : l.all isDig = true) : (trimL l).all isDig = true := by
  rw [List.all_eq_true] at h ⊢
  exact fun x hx => h x ((List.dropWhile_sublist _).subset hx)
theorem take_all {l : List UInt8} (h : l.all isDig = true) (n : Nat) : (l.take n).all isDig = true := by
  rw [List.all_eq_true] at h ⊢
  exact fun x hx => h x (List.mem_of_mem_take hx)
theorem drop_all {l : List UInt8} (h : l.all isDig = true) (n : Nat) : (l.drop n).all isDig = true := by
  rw [List.all_eq_true] at h ⊢
  exact fun x hx => h x (List.mem_of_mem_drop hx)
theorem natL_lt {l : List UInt8} (h : l.all isDig = true) : natL l < 10 ^ l.length := by
  have := natFrom_lt l h 0
  unfold natL; omega
theorem dropWhile_nil_iff {α : Type} (p : α → Bool) (l : List α) : l.dropWhile p = [] ↔ ∀ x ∈ l, p x = true := by
  induction l with
  | nil => simp
  | cons b l ih =>
    by_cases h : p b = true
    · rw [List.dropWhile_cons_of_pos h, ih]; simp [h]
    · rw [List.dropWhile_cons_of_neg h]; simp [h]
/-- Trimmed of all digits, what is left is nothing just where all are digits. -/
theorem trimS_digits (l : List UInt8) : Lib.trimS l [48, 49, 50, 51, 52, 53, 54, 55, 56, 57] = [] ↔ l.all isDig = true := by
  have hc : ∀ b : UInt8, ([48, 49, 50, 51, 52, 53, 54, 55, 56, 57] : List UInt8).contains b = isDig b := by
    intro b
    have : ∀ n : Fin 256, ([48, 49, 50, 51, 52, 53, 54, 55, 56, 57] : List UInt8).contains (UInt8.ofNat n.val) = isDig (UInt8.ofNat n.val) := by decide +kernel
    have h := this ⟨b.toNat, b.toNat_lt⟩
    simpa using h
  unfold Lib.trimS Lib.trimLeftS Lib.trimRightS
  simp only [hc]
  constructor
  · intro h
    rw [dropWhile_nil_iff] at h
    rw [List.all_eq_true]
    intro x hx
    by_cases hm : x ∈ (l.reverse.dropWhile isDig).reverse
    · exact h x hm
    · have hsplit := List.takeWhile_append_dropWhile (p := isDig) (l := l.reverse)
      have hx' : x ∈ l.reverse.takeWhile isDig ++ l.reverse.dropWhile isDig := by rw [hsplit]; exact List.mem_reverse.2 hx
      rcases List.mem_append.1 hx' with hx' | hx'
      · have := List.all_takeWhile (p := isDig) (l := l.reverse)
        exact List.all_eq_true.1 this x hx'
      · exact absurd (List.mem_reverse.2 hx') hm
  · intro h
    have h2 : l.reverse.dropWhile isDig = [] := by
      rw [dropWhile_nil_iff]
      intro x hx
      exact List.all_eq_true.1 h x (List.mem_reverse.1 hx)
    rw [h2]; rfl
end Go.Proofs.YtfcenlhaepckoaaGreatDoor.P
