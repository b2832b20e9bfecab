import Derived.Test.YtneeeaafhjaooaaDoorProg
import Derived.Test.YtneeeaafhjaooaaDoorWWordsq5
import Derived.Test.YtneeeaafhjaooaaDoorWLastq5
import Derived.Test.YtneeeaafhjaooaaDoorWMoreq5
import Derived.Lib.SmallJoins
import Derived.Below
import Derived.Lib.AppendIntMem
import Derived.Lib.ConvBytes
import Derived.WalkKit
import Derived.LoopTactic
import Derived.Deep.DeepCutAuto
import Derived.Deep.CutBlock
import Derived.Deep.QuietTactic
import Derived.BigQuiet
import Derived.Lib.AtoiErrMem
import Derived.Lib.Hide
import Derived.Outline
import Derived.Laws.ResultCell
import Derived.Shelf.Lays
import Derived.Shelf.LaysM
import Derived.Shelf.Strings.SlTrimAscii
import Derived.Shelf.Strings.Repeat
import Derived.Shelf.Small.Strs
import Derived.Shelf.Small.Wraps
import Derived.Shelf.Strings.Prefix
import Derived.Shelf.Strconv.Itoa3
import Derived.Shelf.Strconv.Atoi
import Derived.OrdersHeld
import Derived.Deep.RegionHeld3
import Derived.Laws.BitsLemmas
import Derived.RowKit
import Derived.Deep.Draws
import Derived.Deep.AppendLies
import Derived.Maps.AppendAt
import Derived.OwnWalk
import Derived.Laws.BytesArg
import Derived.Laws.MakeOwn
import Derived.Laws.OwnMore
import Derived.Deep.OwnRows
import Derived.Tactics
import Derived.Laws.Slices
import Derived.KernelRfl
import Derived.RowKit3
import Derived.Deep.LoopGhost
import Derived.WideLaws
import Derived.Laws.Rows
import Derived.Lib.AppendStr
import Derived.ArgAppend
import Derived.Laws.IdiomCopy
namespace Go.Proofs.YtneeeaafhjaooaaDoor.P
set_option linter.all false
open Go.RowKit Go.Proofs.YtneeeaafhjaooaaDoorW.PrintWords Go.Proofs.YtneeeaafhjaooaaDoorW.PrintLast

/-- What is known of memory while the digits are kept in place: the parameter's box, the result's cell, the kept bytes. -/
structure KW (w wx : World) (neg : Bool) (s : ByteArray) (ex : Int) (l : List UInt8) : Prop where
  c0 : wx.cell? ⟨w.heap.size, 0, none⟩ = some (.bool neg)
  c1 : wx.cell? ⟨w.heap.size, 1, none⟩ = some (.string s)
  c2 : wx.cell? ⟨w.heap.size, 2, none⟩ = some (.int .i64 ex)
  res : wx.heap[w.heap.size + 1]? = some (.cells #[.bool false, .string ⟨#[]⟩, .int .i64 0] 23 (0, 0))
  at_ : ∀ j, j < l.length → wx.cell? ⟨w.heap.size + 1 + 1, j, none⟩ = some (.int .u8 (l.getD j 0).toNat)
  free : ∀ j, j < l.length → wx.frozen? ⟨w.heap.size + 1 + 1, j, none⟩ = false
  bel : Below w.heap.size w wx
  size : w.heap.size + 3 ≤ wx.heap.size

/-- What is taken away, held against half a unit. -/
def halfL : List UInt8 → Int
  | [] => 0
  | [b] => if b.toNat = 53 then 0 else if 53 < b.toNat then 1 else -1
  | b :: _ :: _ => if 53 ≤ b.toNat then 1 else -1
def oddL (l : List UInt8) (n : Nat) : Bool := decide (0 < n) && (((l.getD (n - 1) 0).toNat : Int) % 2 == 1)
def upB (way half : Int) (odd neg : Bool) : Bool :=
  if way = 0 then decide (0 < half) || (decide (half = 0) && odd)
  else if way = 1 then decide (0 ≤ half)
  else if way = 3 then true
  else if way = 4 then neg
  else if way = 5 then !neg else false
def bumpL (l : List UInt8) : List UInt8 :=
  match l.reverse.dropWhile (· == 57) with
  | [] => 49 :: List.replicate l.length 48
  | b :: t => t.reverse ++ (b + 1) :: List.replicate (l.length - 1 - t.length) 48
def refKept (neg : Bool) (l : List UInt8) (n : Nat) (way : Int) : List UInt8 :=
  if (!(l.drop n).isEmpty && upB way (halfL (l.drop n)) (oddL l n) neg) = true then bumpL (l.take n) else l.take n

theorem half_lt (b : UInt8) (R : List UInt8) (h : b.toNat < 53) : halfL (b :: R) = -1 := by
  cases R with
  | nil => simp only [halfL]; rw [if_neg (by omega), if_neg (by omega)]
  | cons c R => simp only [halfL]; rw [if_neg (by omega)]
theorem half_gt (b : UInt8) (R : List UInt8) (h : 53 < b.toNat) : halfL (b :: R) = 1 := by
  cases R with
  | nil => simp only [halfL]; rw [if_neg (by omega), if_pos (by omega)]
  | cons c R => simp only [halfL]; rw [if_pos (by omega)]
theorem half_eq (b c : UInt8) (R : List UInt8) (h : b.toNat = 53) : halfL (b :: c :: R) = 1 := by
  simp only [halfL]; rw [if_pos (by omega)]
theorem half_one (b : UInt8) (h : b.toNat = 53) : halfL [b] = 0 := by
  simp only [halfL]; rw [if_pos h]

theorem up0a (hf : Int) (od neg : Bool) (h : hf = 0) : upB 0 hf od neg = od := by simp [upB, h]
theorem up0b (hf : Int) (od neg : Bool) (h : hf ≤ 0) (h2 : ¬ hf = 0) : upB 0 hf od neg = false := by simp [upB, h2]; omega
theorem up0c (hf : Int) (od neg : Bool) (h : 0 < hf) : upB 0 hf od neg = true := by simp [upB, h]
theorem up1 (hf : Int) (od neg : Bool) : upB 1 hf od neg = decide (0 ≤ hf) := by simp [upB]
theorem up3 (hf : Int) (od neg : Bool) : upB 3 hf od neg = true := by simp [upB]
theorem up4 (hf : Int) (od neg : Bool) : upB 4 hf od neg = neg := by simp [upB]
theorem up5 (hf : Int) (od neg : Bool) : upB 5 hf od neg = !neg := by simp [upB]
theorem upE (way hf : Int) (od neg : Bool) (h0 : ¬ way = 0) (h1 : ¬ way = 1) (h3 : ¬ way = 3) (h4 : ¬ way = 4) (h5 : ¬ way = 5) : upB way hf od neg = false := by simp [upB, h0, h1, h3, h4, h5]

theorem bump_all (c : Nat) : bumpL (List.replicate c 57) = 49 :: List.replicate c 48 := by
  have h : (List.replicate c (57 : UInt8)).dropWhile (· == 57) = [] := by
    induction c with
    | zero => rfl
    | succ c ih => simp [List.replicate_succ, ih]
  simp [bumpL, h]
theorem bump_at (A : List UInt8) (x : UInt8) (c : Nat) (hx : x ≠ 57) : bumpL (A ++ x :: List.replicate c 57) = A ++ (x + 1) :: List.replicate c 48 := by
  have h : ∀ T : List UInt8, (List.replicate c (57 : UInt8) ++ x :: T).dropWhile (· == 57) = x :: T := by
    intro T
    induction c with
    | zero => simp [hx]
    | succ c ih => simp only [List.replicate_succ, List.cons_append, List.dropWhile_cons]; simpa using ih
  simp only [bumpL, List.reverse_append, List.reverse_cons, List.reverse_replicate, List.append_assoc, List.singleton_append, h]
  simp

/-- What is known once the digits are kept: how they read, beside the box and the result's cell. -/
structure KR (w wx : World) (neg : Bool) (v : Value) (r : List UInt8) : Prop where
  c0 : wx.cell? ⟨w.heap.size, 0, none⟩ = some (.bool neg)
  res : wx.heap[w.heap.size + 1]? = some (.cells #[.bool false, .string ⟨#[]⟩, .int .i64 0] 23 (0, 0))
  bel : Below w.heap.size w wx
  size : w.heap.size + 3 ≤ wx.heap.size
  cv : (convert 47 9 v).run Tryd.prog wx = .ok (.string ⟨r.toArray⟩) wx

theorem strOfNums_bytes (l : List UInt8) : strOfNums (l.map fun b => (b.toNat : Int)) = ⟨l.toArray⟩ := by
  simp [strOfNums, List.map_map, Function.comp_def]

theorem KW.reads {w wx : World} {neg : Bool} {s : ByteArray} {ex : Int} {l : List UInt8} (h : KW w wx neg s ex l) (n cap : Nat) (hn : l.length = n) :
    KR w wx neg (.slice (some ⟨w.heap.size + 1 + 1, 0, none⟩) n cap) l := by
  refine ⟨h.c0, h.res, h.bel, h.size, ?_⟩
  have := run_convert_bytes_arg (P := Tryd.prog) wx 47 5 Tryd.underlying47 Tryd.underlying5 (w.heap.size + 1 + 1) 0 n cap (l.map fun b => (b.toNat : Int)) (by simpa using hn) (fun i hi => by
    rw [Nat.zero_add, h.at_ i (by omega)]
    simp [List.getD, List.getElem?_eq_getElem (show i < l.length by omega)]) 9 Tryd.underlying9
  rw [strOfNums_bytes] at this
  exact this

end Go.Proofs.YtneeeaafhjaooaaDoor.P
