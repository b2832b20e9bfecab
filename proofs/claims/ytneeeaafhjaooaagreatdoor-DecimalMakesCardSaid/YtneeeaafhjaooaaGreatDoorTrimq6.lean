import Derived.Test.YtneeeaafhjaooaaGreatDoorBq6
import Derived.Lib.Strings
import Derived.Lib.Repeat
import Derived.Lib.SlTrimSet
import Derived.Lib.Bytealg
import Derived.OrdersHeld
import Derived.Deep.RegionHeld3
import Derived.Laws.BitsLemmas
import Derived.RowKit
import Derived.Below
import Derived.Deep.Draws
import Derived.Deep.AppendLies
import Derived.Maps.AppendAt
import Derived.OwnWalk
import Derived.Laws.BytesArg
import Derived.Laws.MakeOwn
import Derived.Laws.OwnMore
import Derived.Deep.OwnRows
import Derived.Tactics
import Derived.Lib.ConvBytes
import Derived.Laws.Slices
import Derived.WalkKit
import Derived.KernelRfl
import Derived.RowKit3
import Derived.Deep.LoopGhost
import Derived.Deep.QuietTactic
import Derived.BigQuiet
import Derived.WideLaws
import Derived.Deep.DeepCutAuto
import Derived.Deep.CutBlock
import Derived.Laws.Rows
import Derived.Lib.AppendStr
import Derived.ArgAppend
import Derived.Laws.IdiomCopy
namespace Go.Proofs.YtneeeaafhjaooaaGreatDoor.P
set_option linter.all false

theorem dropWhile_48 (l : List UInt8) : ∃ c, l = List.replicate c 48 ++ l.dropWhile (· == 48) := by
  induction l with
  | nil => exact ⟨0, rfl⟩
  | cons b l ih =>
    by_cases h : b = 48
    · obtain ⟨c, hc⟩ := ih
      refine ⟨c + 1, ?_⟩
      rw [h, List.dropWhile_cons_of_pos (by rfl), List.replicate_succ, List.cons_append, ← hc]
    · exact ⟨0, by rw [List.dropWhile_cons_of_neg (by simpa using h)]; rfl⟩
theorem dropWhile_head (l : List UInt8) (h : l.dropWhile (· == 48) ≠ []) : (l.dropWhile (· == 48)).getD 0 0 ≠ 48 := by
  induction l with
  | nil => exact absurd rfl h
  | cons b l ih =>
    by_cases hb : b = 48
    · rw [List.dropWhile_cons_of_pos (by simpa using hb)] at h ⊢; exact ih h
    · rw [List.dropWhile_cons_of_neg (by simpa using hb)]; simpa using hb

theorem trimL_split (l : List UInt8) : ∃ c, l = List.replicate c 48 ++ trimL l := dropWhile_48 l
theorem trimL_head (l : List UInt8) (h : trimL l ≠ []) : (trimL l).getD 0 0 ≠ 48 := dropWhile_head l h
theorem trimR_split (l : List UInt8) : ∃ c, l = trimR l ++ List.replicate c 48 := by
  obtain ⟨c, hc⟩ := dropWhile_48 l.reverse
  refine ⟨c, ?_⟩
  have := congrArg List.reverse hc
  rw [List.reverse_reverse, List.reverse_append, List.reverse_replicate] at this
  exact this
theorem getD_last (a : List UInt8) (b : UInt8) : (a ++ [b]).getD ((a ++ [b]).length - 1) 0 = b := by
  rw [List.getD, List.length_append, List.length_singleton, Nat.add_sub_cancel, List.getElem?_append_right (Nat.le_refl _), Nat.sub_self]; rfl
theorem trimR_last (l : List UInt8) (h : trimR l ≠ []) : (trimR l).getD ((trimR l).length - 1) 0 ≠ 48 := by
  unfold trimR at h ⊢
  have h1 : l.reverse.dropWhile (· == 48) ≠ [] := fun e => h (by rw [e]; rfl)
  have h2 := dropWhile_head _ h1
  generalize l.reverse.dropWhile (· == 48) = T at h1 h2 ⊢
  cases T with
  | nil => exact absurd rfl h1
  | cons b T => rw [List.reverse_cons, getD_last]; exact h2
theorem trimL_cons (l : List UInt8) : trimL (48 :: l) = trimL l := List.dropWhile_cons_of_pos (by rfl)
theorem trimL_of_head (b : UInt8) (l : List UInt8) (h : b ≠ 48) : trimL (b :: l) = b :: l := List.dropWhile_cons_of_neg (by simpa using h)
theorem trimR_snoc (l : List UInt8) : trimR (l ++ [48]) = trimR l := by
  unfold trimR; rw [List.reverse_append]; show ((48 :: l.reverse).dropWhile _).reverse = _; rw [List.dropWhile_cons_of_pos (by rfl)]
theorem trimR_of_last (l : List UInt8) (b : UInt8) (h : b ≠ 48) : trimR (l ++ [b]) = l ++ [b] := by
  unfold trimR; rw [List.reverse_append]; show ((b :: l.reverse).dropWhile _).reverse = _; rw [List.dropWhile_cons_of_neg (by simpa using h)]; simp
theorem all_trimL (l : List UInt8) (h : l.all isDig = true) : (trimL l).all isDig = true := by
  obtain ⟨c, hc⟩ := trimL_split l
  rw [hc, List.all_append, Bool.and_eq_true] at h
  exact h.2
theorem all_trimR (l : List UInt8) (h : l.all isDig = true) : (trimR l).all isDig = true := by
  obtain ⟨c, hc⟩ := trimR_split l
  rw [hc, List.all_append, Bool.and_eq_true] at h
  exact h.1
theorem trim_head (l : List UInt8) (h : trimR (trimL l) ≠ []) : (trimR (trimL l)).getD 0 0 ≠ 48 := by
  obtain ⟨c, hc⟩ := trimR_split (trimL l)
  have h1 : trimL l ≠ [] := fun e => h (by rw [e]; rfl)
  have h2 := trimL_head l h1
  rw [hc] at h2
  cases hS : trimR (trimL l) with
  | nil => exact absurd hS h
  | cons b S => rw [hS] at h2; simpa using h2
end Go.Proofs.YtneeeaafhjaooaaGreatDoor.P
