import Derived.Test.YtneeeaafhjaooaaDoorBq4
import Derived.Lib.Strings
import Derived.Lib.Repeat
import Derived.Lib.SlTrimSet
import Derived.Lib.Bytealg
import Derived.OrdersHeld
import Derived.Deep.RegionHeld3
import Derived.Laws.BitsLemmas
import Derived.RowKit
import Derived.Below
import Derived.Deep.Draws
import Derived.Deep.AppendLies
import Derived.Maps.AppendAt
import Derived.OwnWalk
import Derived.Laws.BytesArg
import Derived.Laws.MakeOwn
import Derived.Laws.OwnMore
import Derived.Deep.OwnRows
import Derived.Tactics
import Derived.Lib.ConvBytes
import Derived.Laws.Slices
import Derived.WalkKit
import Derived.KernelRfl
import Derived.RowKit3
import Derived.Deep.LoopGhost
import Derived.Deep.QuietTactic
import Derived.BigQuiet
import Derived.WideLaws
import Derived.Deep.DeepCutAuto
import Derived.Deep.CutBlock
import Derived.Laws.Rows
import Derived.Lib.AppendStr
import Derived.ArgAppend
import Derived.Laws.IdiomCopy
namespace Go.Proofs.YtneeeaafhjaooaaDoor.P
set_option linter.all false

theorem dropWhile_48 (l : List UInt8) : ∃ c, l = List.replicate c 48 ++ l.dropWhile (· == 48) := by
  induction l with
  | nil => exact ⟨0, rfl⟩
  | cons b l ih =>
    by_cases h : b = 48
    · obtain ⟨c, hc⟩ := ih
      refine ⟨c + 1, ?_⟩
      rw [h, List.dropWhile_cons_of_pos (by rfl), List.replicate_succ, List.cons_append, ← hc]
    · exact ⟨0, by rw [List.dropWhile_cons_of_neg (by simpa using h)]; rfl⟩
theorem trimL_split (l : List UInt8) : ∃ c, l = List.replicate c 48 ++ trimL l := dropWhile_48 l
theorem trimR_split (l : List UInt8) : ∃ c, l = trimR l ++ List.replicate c 48 := by
  obtain ⟨c, hc⟩ := dropWhile_48 l.reverse
  refine ⟨c, ?_⟩
  have := congrArg List.reverse hc
  rw [List.reverse_reverse, List.reverse_append, List.reverse_replicate] at this
  exact this
theorem getD_last (a : List UInt8) (b : UInt8) : (a ++ [b]).getD ((a ++ [b]).length - 1) 0 = b := by
  rw [List.getD, List.length_append, List.length_singleton, Nat.add_sub_cancel, List.getElem?_append_right (Nat.le_refl _), Nat.sub_self]; rfl
end Go.Proofs.YtneeeaafhjaooaaDoor.P
