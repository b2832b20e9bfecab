import Derived.Test.YtneeeaafhjaooaaDoorBq3
import Derived.Lib.Strings
import Derived.Lib.Repeat
import Derived.Lib.SlTrimSet
import Derived.Lib.Bytealg
import Derived.OrdersHeld
import Derived.Deep.RegionHeld3
import Derived.Laws.BitsLemmas
import Derived.RowKit
import Derived.Below
import Derived.Deep.Draws
import Derived.Deep.AppendLies
import Derived.Maps.AppendAt
import Derived.OwnWalk
import Derived.Laws.BytesArg
import Derived.Laws.MakeOwn
import Derived.Laws.OwnMore
import Derived.Deep.OwnRows
import Derived.Tactics
import Derived.Lib.ConvBytes
import Derived.Laws.Slices
import Derived.WalkKit
import Derived.KernelRfl
import Derived.RowKit3
import Derived.Deep.LoopGhost
import Derived.Deep.QuietTactic
import Derived.BigQuiet
import Derived.WideLaws
import Derived.Deep.DeepCutAuto
import Derived.Deep.CutBlock
import Derived.Laws.Rows
import Derived.Lib.AppendStr
import Derived.ArgAppend
import Derived.Laws.IdiomCopy
namespace Go.Proofs.YtneeeaafhjaooaaDoor.P
set_option linter.all false

theorem getD_last (a : List UInt8) (b : UInt8) : (a ++ [b]).getD ((a ++ [b]).length - 1) 0 = b := by
  rw [List.getD, List.length_append, List.length_singleton, Nat.add_sub_cancel, List.getElem?_append_right (Nat.le_refl _), Nat.sub_self]; rfl
theorem trimL_cons (l : List UInt8) : trimL (48 :: l) = trimL l := List.dropWhile_cons_of_pos (by rfl)
theorem trimL_of_head (b : UInt8) (l : List UInt8) (h : b ≠ 48) : trimL (b :: l) = b :: l := List.dropWhile_cons_of_neg (by simpa using h)
theorem trimR_snoc (l : List UInt8) : trimR (l ++ [48]) = trimR l := by
  unfold trimR; rw [List.reverse_append]; show ((48 :: l.reverse).dropWhile _).reverse = _; rw [List.dropWhile_cons_of_pos (by rfl)]
theorem trimR_of_last (l : List UInt8) (b : UInt8) (h : b ≠ 48) : trimR (l ++ [b]) = l ++ [b] := by
  unfold trimR; rw [List.reverse_append]; show ((b :: l.reverse).dropWhile _).reverse = _; rw [List.dropWhile_cons_of_neg (by simpa using h)]; simp
end Go.Proofs.YtneeeaafhjaooaaDoor.P
