import Derived.Test.YtneeeaafhjaooaaGreatDoorProg
import Derived.Test.YtneeeaafhjaooaaGreatDoorWWordsq6
import Derived.Test.YtneeeaafhjaooaaGreatDoorWLastq6
import Derived.Test.YtneeeaafhjaooaaGreatDoorWMoreq6
import Derived.Lib.SmallJoins
import Derived.Below
import Derived.Lib.AppendIntMem
import Derived.Lib.ConvBytes
import Derived.WalkKit
import Derived.LoopTactic
import Derived.Deep.DeepCutAuto
import Derived.Deep.CutBlock
import Derived.Deep.QuietTactic
import Derived.BigQuiet
import Derived.Lib.AtoiErrMem
import Derived.Lib.Hide
import Derived.Outline
import Derived.Laws.ResultCell
import Derived.Shelf.Lays
import Derived.Shelf.LaysM
import Derived.Shelf.Strings.SlTrimAscii
import Derived.Shelf.Strings.Repeat
import Derived.Shelf.Small.Strs
import Derived.Shelf.Small.Wraps
import Derived.Shelf.Strings.Prefix
import Derived.Shelf.Strconv.Itoa3
import Derived.Shelf.Strconv.Atoi
import Derived.OrdersHeld
import Derived.Deep.RegionHeld3
import Derived.Laws.BitsLemmas
import Derived.RowKit
import Derived.Deep.Draws
import Derived.Deep.AppendLies
import Derived.Maps.AppendAt
import Derived.OwnWalk
import Derived.Laws.BytesArg
import Derived.Laws.MakeOwn
import Derived.Laws.OwnMore
import Derived.Deep.OwnRows
import Derived.Tactics
import Derived.Laws.Slices
import Derived.KernelRfl
import Derived.RowKit3
import Derived.Deep.LoopGhost
import Derived.WideLaws
import Derived.Laws.Rows
import Derived.Lib.AppendStr
import Derived.ArgAppend
import Derived.Laws.IdiomCopy
namespace Go.Proofs.YtneeeaafhjaooaaGreatDoor.P
set_option linter.all false
open Go.RowKit Go.Proofs.YtneeeaafhjaooaaGreatDoorW.PrintWords Go.Proofs.YtneeeaafhjaooaaGreatDoorW.PrintLast

/-- What is taken away, held against half a unit. -/
def halfL : List UInt8 → Int
  | [] => 0
  | [b] => if b.toNat = 53 then 0 else if 53 < b.toNat then 1 else -1
  | b :: _ :: _ => if 53 ≤ b.toNat then 1 else -1
def oddL (l : List UInt8) (n : Nat) : Bool := decide (0 < n) && (((l.getD (n - 1) 0).toNat : Int) % 2 == 1)
def upB (way half : Int) (odd neg : Bool) : Bool :=
  if way = 0 then decide (0 < half) || (decide (half = 0) && odd)
  else if way = 1 then decide (0 ≤ half)
  else if way = 3 then true
  else if way = 4 then neg
  else if way = 5 then !neg else false
def bumpL (l : List UInt8) : List UInt8 :=
  match l.reverse.dropWhile (· == 57) with
  | [] => 49 :: List.replicate l.length 48
  | b :: t => t.reverse ++ (b + 1) :: List.replicate (l.length - 1 - t.length) 48
def refKept (neg : Bool) (l : List UInt8) (n : Nat) (way : Int) : List UInt8 :=
  if (!(l.drop n).isEmpty && upB way (halfL (l.drop n)) (oddL l n) neg) = true then bumpL (l.take n) else l.take n

theorem half_lt (b : UInt8) (R : List UInt8) (h : b.toNat < 53) : halfL (b :: R) = -1 := by
  cases R with
  | nil => simp only [halfL]; rw [if_neg (by omega), if_neg (by omega)]
  | cons c R => simp only [halfL]; rw [if_neg (by omega)]
theorem half_gt (b : UInt8) (R : List UInt8) (h : 53 < b.toNat) : halfL (b :: R) = 1 := by
  cases R with
  | nil => simp only [halfL]; rw [if_neg (by omega), if_pos (by omega)]
  | cons c R => simp only [halfL]; rw [if_pos (by omega)]
theorem half_eq (b c : UInt8) (R : List UInt8) (h : b.toNat = 53) : halfL (b :: c :: R) = 1 := by
  simp only [halfL]; rw [if_pos (by omega)]
theorem half_one (b : UInt8) (h : b.toNat = 53) : halfL [b] = 0 := by
  simp only [halfL]; rw [if_pos h]

theorem up0a (hf : Int) (od neg : Bool) (h : hf = 0) : upB 0 hf od neg = od := by simp [upB, h]
theorem up0b (hf : Int) (od neg : Bool) (h : hf ≤ 0) (h2 : ¬ hf = 0) : upB 0 hf od neg = false := by simp [upB, h2]; omega
theorem up0c (hf : Int) (od neg : Bool) (h : 0 < hf) : upB 0 hf od neg = true := by simp [upB, h]
theorem up1 (hf : Int) (od neg : Bool) : upB 1 hf od neg = decide (0 ≤ hf) := by simp [upB]
theorem up3 (hf : Int) (od neg : Bool) : upB 3 hf od neg = true := by simp [upB]
theorem up4 (hf : Int) (od neg : Bool) : upB 4 hf od neg = neg := by simp [upB]
theorem up5 (hf : Int) (od neg : Bool) : upB 5 hf od neg = !neg := by simp [upB]
theorem upE (way hf : Int) (od neg : Bool) (h0 : ¬ way = 0) (h1 : ¬ way = 1) (h3 : ¬ way = 3) (h4 : ¬ way = 4) (h5 : ¬ way = 5) : upB way hf od neg = false := by simp [upB, h0, h1, h3, h4, h5]

end Go.Proofs.YtneeeaafhjaooaaGreatDoor.P
