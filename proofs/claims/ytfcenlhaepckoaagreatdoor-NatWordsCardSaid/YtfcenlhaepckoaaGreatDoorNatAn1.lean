import Derived.Test.YtfcenlhaepckoaaGreatDoorBn1
import Derived.Lib.Strings
import Derived.Lib.Repeat
import Derived.Lib.SlTrimSet
import Derived.Lib.Bytealg
import Derived.OrdersHeld
import Derived.Deep.RegionHeld3
import Derived.Laws.BitsLemmas
import Derived.RowKit
import Derived.Below
import Derived.Deep.Draws
import Derived.Deep.AppendLies
import Derived.Maps.AppendAt
import Derived.OwnWalk
import Derived.Laws.BytesArg
import Derived.Laws.MakeOwn
import Derived.Laws.OwnMore
import Derived.Deep.OwnRows
import Derived.Tactics
import Derived.Lib.ConvBytes
import Derived.Laws.Slices
import Derived.WalkKit
import Derived.KernelRfl
import Derived.RowKit3
import Derived.Deep.LoopGhost
import Derived.Deep.QuietTactic
import Derived.BigQuiet
import Derived.WideLaws
import Derived.Deep.DeepCutAuto
import Derived.Deep.CutBlock
import Derived.Laws.Rows
import Derived.Lib.AppendStr
import Derived.ArgAppend
import Derived.Laws.IdiomCopy
namespace Go.Proofs.YtfcenlhaepckoaaGreatDoor.P
set_option linter.all false
open Go.RowKit Go.Proofs.YtfcenlhaepckoaaGreatDoorW.PrintWords

/-- All limbs are limbs. -/
def Lim (l : List Int) : Prop := ∀ x ∈ l, 0 ≤ x ∧ x < 4294967296
/-- What a list is worth. -/
def val : List Int → Int
  | [] => 0
  | x :: t => x + 4294967296 * val t
/-- Without noughts at the end. -/
def tr : List Int → List Int
  | [] => []
  | x :: t => if tr t = [] ∧ x = 0 then [] else x :: tr t
/-- The right list of a number. -/
def canN (n : Nat) : List Int := if h : n = 0 then [] else ((n % 4294967296 : Nat) : Int) :: canN (n / 4294967296)
termination_by n
decreasing_by exact Nat.div_lt_self (Nat.pos_of_ne_zero h) (by decide)
def can (z : Int) : List Int := canN z.toNat
def PW (n : Nat) : Int := 4294967296 ^ n

theorem PW_zero : PW 0 = 1 := rfl
theorem PW_succ (n : Nat) : PW (n + 1) = 4294967296 * PW n := by unfold PW; rw [Int.pow_succ, Int.mul_comm]
theorem PW_pos (n : Nat) : 0 < PW n := by
  induction n with
  | zero => decide
  | succ n ih => rw [PW_succ]; omega
theorem PW_add (m n : Nat) : PW (m + n) = PW m * PW n := by unfold PW; exact Int.pow_add _ _ _
theorem PW_le {m n : Nat} (h : m ≤ n) : PW m ≤ PW n := by
  obtain ⟨d, rfl⟩ := Nat.le.dest h
  rw [PW_add]
  have a := PW_pos m
  have b := PW_pos d
  have := Int.mul_le_mul_of_nonneg_left (show (1 : Int) ≤ PW d by omega) (show 0 ≤ PW m by omega)
  omega

theorem Lim.nil : Lim [] := by intro x h; cases h
theorem Lim.cons {x : Int} {t : List Int} : Lim (x :: t) ↔ (0 ≤ x ∧ x < 4294967296) ∧ Lim t := by
  constructor
  · intro h; exact ⟨h x (List.mem_cons_self ..), fun y hy => h y (List.mem_cons_of_mem _ hy)⟩
  · rintro ⟨h1, h2⟩ y hy
    rcases List.mem_cons.1 hy with rfl | hy
    · exact h1
    · exact h2 y hy
theorem Lim.append {a b : List Int} : Lim (a ++ b) ↔ Lim a ∧ Lim b := by
  constructor
  · intro h; exact ⟨fun y hy => h y (List.mem_append_left _ hy), fun y hy => h y (List.mem_append_right _ hy)⟩
  · rintro ⟨h1, h2⟩ y hy
    rcases List.mem_append.1 hy with hy | hy
    · exact h1 y hy
    · exact h2 y hy
theorem Lim.take {a : List Int} (h : Lim a) (n : Nat) : Lim (a.take n) := fun y hy => h y (List.mem_of_mem_take hy)
theorem Lim.drop {a : List Int} (h : Lim a) (n : Nat) : Lim (a.drop n) := fun y hy => h y (List.mem_of_mem_drop hy)
theorem Lim.zeros (n : Nat) : Lim (List.replicate n 0) := by
  intro y hy; rw [List.mem_replicate] at hy; omega
theorem Lim.one {x : Int} (h0 : 0 ≤ x) (h1 : x < 4294967296) : Lim [x] := Lim.cons.2 ⟨⟨h0, h1⟩, Lim.nil⟩
theorem lim_rd {a : List Int} (h : Lim a) (i : Int) : 0 ≤ rd a i ∧ rd a i < 4294967296 := by
  unfold rd
  rw [List.getD]
  cases e : a[i.toNat]? with
  | none => simp
  | some y => exact h y (List.mem_of_getElem? e)
theorem Lim.set {a : List Int} (h : Lim a) (i : Nat) {x : Int} (h0 : 0 ≤ x) (h1 : x < 4294967296) : Lim (a.set i x) := by
  intro y hy
  rcases List.mem_or_eq_of_mem_set hy with hy | rfl
  · exact h y hy
  · exact ⟨h0, h1⟩

theorem val_nonneg {l : List Int} (h : Lim l) : 0 ≤ val l := by
  induction l with
  | nil => exact Int.le_refl _
  | cons x t ih => have := Lim.cons.1 h; have := ih this.2; simp only [val]; omega
theorem val_lt {l : List Int} (h : Lim l) : val l < PW l.length := by
  induction l with
  | nil => decide
  | cons x t ih => have := Lim.cons.1 h; have := ih this.2; simp only [val, List.length_cons, PW_succ]; omega
theorem val_append (a b : List Int) : val (a ++ b) = val a + PW a.length * val b := by
  induction a with
  | nil => simp [val, PW_zero]
  | cons x t ih => simp only [List.cons_append, val, ih, List.length_cons, PW_succ]; grind
theorem val_zeros (n : Nat) : val (List.replicate n 0) = 0 := by
  induction n with
  | zero => rfl
  | succ n ih => simp only [List.replicate_succ, val, ih]; rfl
theorem val_one (x : Int) : val [x] = x := by simp [val]
theorem val_set (l : List Int) (j : Nat) (hj : j < l.length) (y : Int) : val (l.set j y) = val l + PW j * (y - rd l j) := by
  induction l generalizing j with
  | nil => simp at hj
  | cons x t ih =>
    cases j with
    | zero => simp only [List.set_cons_zero, val, PW_zero, rd]; simp; omega
    | succ j =>
      have e : rd (x :: t) ((j + 1 : Nat) : Int) = rd t (j : Int) := by simp [rd]
      rw [e]
      simp only [List.set_cons_succ, val, ih j (by simpa using hj), PW_succ]
      grind

theorem tr_zero (a : List Int) : tr (a ++ [0]) = tr a := by
  induction a with
  | nil => simp [tr]
  | cons x t ih => simp only [List.cons_append, tr, ih]
theorem tr_last (a : List Int) {x : Int} (h : x ≠ 0) : tr (a ++ [x]) = a ++ [x] := by
  induction a with
  | nil => simp [tr, h]
  | cons y t ih => simp only [List.cons_append, tr, ih]; simp
theorem tr_take (l : List Int) : l.take (tr l).length = tr l := by
  induction l with
  | nil => rfl
  | cons x t ih =>
    simp only [tr]
    split
    · rfl
    · simp [ih]
theorem tr_length_le (l : List Int) : (tr l).length ≤ l.length := by
  have := congrArg List.length (tr_take l)
  rw [List.length_take] at this; omega
theorem tr_Lim {l : List Int} (h : Lim l) : Lim (tr l) := by rw [← tr_take]; exact h.take _
theorem tr_val (l : List Int) : val (tr l) = val l := by
  induction l with
  | nil => rfl
  | cons x t ih =>
    simp only [tr]
    split
    · rename_i h; rw [h.1] at ih; simp only [val] at ih ⊢; rw [← ih, h.2]; rfl
    · simp only [val, ih]
theorem canN_zero : canN 0 = [] := by rw [canN]; rfl
theorem canN_pos {n : Nat} (h : n ≠ 0) : canN n = ((n % 4294967296 : Nat) : Int) :: canN (n / 4294967296) := by rw [canN, dif_neg h]
theorem canN_val (n : Nat) : val (canN n) = n := by
  induction n using Nat.strongRecOn with
  | ind n ih =>
    by_cases h : n = 0
    · subst h; rw [canN_zero]; rfl
    · rw [canN_pos h, val, ih _ (Nat.div_lt_self (Nat.pos_of_ne_zero h) (by decide))]; omega
theorem canN_Lim (n : Nat) : Lim (canN n) := by
  induction n using Nat.strongRecOn with
  | ind n ih =>
    by_cases h : n = 0
    · subst h; rw [canN_zero]; exact Lim.nil
    · rw [canN_pos h]; exact Lim.cons.2 ⟨by omega, ih _ (Nat.div_lt_self (Nat.pos_of_ne_zero h) (by decide))⟩
theorem can_val {z : Int} (h : 0 ≤ z) : val (can z) = z := by unfold can; rw [canN_val]; omega
theorem can_Lim (z : Int) : Lim (can z) := canN_Lim _
theorem can_zero : can 0 = [] := canN_zero
/-- The right list of a list's worth. -/
theorem can_of {l : List Int} (h : Lim l) : can (val l) = tr l := by
  induction l with
  | nil => exact can_zero
  | cons x t ih =>
    obtain ⟨hx, ht⟩ := Lim.cons.1 h
    have hv := val_nonneg ht
    have ih := ih ht
    unfold can at ih ⊢
    simp only [val, tr]
    by_cases h0 : x + 4294967296 * val t = 0
    · have hx0 : x = 0 := by omega
      have hv0 : val t = 0 := by omega
      rw [hv0] at ih
      rw [h0]
      rw [show (0 : Int).toNat = 0 from rfl, canN_zero] at ih ⊢
      rw [if_pos ⟨ih.symm, hx0⟩]
    · rw [canN_pos (by omega), show (x + 4294967296 * val t).toNat / 4294967296 = (val t).toNat by omega, ih, show (((x + 4294967296 * val t).toNat % 4294967296 : Nat) : Int) = x by omega]
      rw [if_neg]
      rintro ⟨q1, q2⟩
      have := tr_val t
      rw [q1] at this
      simp only [val] at this
      omega
/-- How long a right list is. -/
theorem can_length {z : Int} (h : 0 ≤ z) (n : Nat) : (can z).length ≤ n ↔ z < PW n := by
  constructor
  · intro hl
    have := val_lt (can_Lim z)
    rw [can_val h] at this
    have := PW_le hl
    omega
  · unfold can
    generalize hn : z.toNat = m
    have : z = m := by omega
    subst this
    clear h hn
    induction n generalizing m with
    | zero =>
      intro hm
      have : m = 0 := by rw [PW_zero] at hm; omega
      subst this; rw [canN_zero]; exact Nat.le_refl _
    | succ n ih =>
      intro hm
      by_cases h0 : m = 0
      · subst h0; rw [canN_zero]; exact Nat.zero_le _
      · rw [canN_pos h0, List.length_cons]
        rw [PW_succ] at hm
        have := ih (m / 4294967296) (by omega)
        omega
end Go.Proofs.YtfcenlhaepckoaaGreatDoor.P
