import Derived.Test.YtfcenlhaepckoaaGreatDoorWWordsn1
import Derived.Test.YtfcenlhaepckoaaGreatDoorWMoren1
import Derived.Lib.Strings
import Derived.Lib.Repeat
import Derived.Lib.SlTrimSet
import Derived.Lib.Bytealg
import Derived.OrdersHeld
import Derived.Deep.RegionHeld3
import Derived.Laws.BitsLemmas
import Derived.RowKit
import Derived.Below
import Derived.Deep.Draws
import Derived.Deep.AppendLies
import Derived.Maps.AppendAt
import Derived.OwnWalk
import Derived.Laws.BytesArg
import Derived.Laws.MakeOwn
import Derived.Laws.OwnMore
import Derived.Deep.OwnRows
import Derived.Tactics
import Derived.Lib.ConvBytes
import Derived.Laws.Slices
import Derived.WalkKit
import Derived.KernelRfl
import Derived.RowKit3
import Derived.Deep.LoopGhost
import Derived.Deep.QuietTactic
import Derived.BigQuiet
import Derived.WideLaws
import Derived.Deep.DeepCutAuto
import Derived.Deep.CutBlock
import Derived.Laws.Rows
import Derived.Lib.AppendStr
import Derived.ArgAppend
import Derived.Laws.IdiomCopy
namespace Go.Proofs.YtfcenlhaepckoaaGreatDoor.P
set_option linter.all false
open Go.RowKit Go.Proofs.YtfcenlhaepckoaaGreatDoorW.PrintWords Go.Proofs.YtfcenlhaepckoaaGreatDoorW.PrintMore

/-- The text of a list of bytes. -/
def B (l : List UInt8) : ByteArray := ⟨l.toArray⟩
theorem B_eta (s : ByteArray) : B s.data.toList = s := by cases s; simp [B]
@[simp] theorem B_data (l : List UInt8) : (B l).data.toList = l := by simp [B]
@[simp] theorem B_toList (l : List UInt8) : (B l).toList = l := by rw [Lib.toList_data]; exact B_data l
@[simp] theorem B_size (l : List UInt8) : (B l).size = l.length := by rw [Lib.size_eq, B_data]
@[simp] theorem B_append (a b : List UInt8) : B a ++ B b = B (a ++ b) := by
  rw [← B_eta (B a ++ B b)]; congr 1
@[simp] theorem B_extract (l : List UInt8) (i j : Nat) : (B l).extract i j = B ((l.take j).drop i) := by
  rw [← B_eta ((B l).extract i j)]; congr 1
  rw [ByteArray.data_extract, Array.toList_extract, B_data, List.extract_eq_take_drop, List.drop_take]
@[simp] theorem B_bt (l : List UInt8) (i : Int) : bt (B l) i = ((l.getD i.toNat 0).toNat : Int) := by
  unfold bt
  split
  · rename_i h
    rw [B_size] at h
    have h2 : (B l)[i.toNat]'(by rw [B_size]; exact h) = l[i.toNat] := by
      rw [ByteArray.getElem_eq_getElem_data]; simp [B]
    rw [h2, List.getD, List.getElem?_eq_getElem h]; rfl
  · rename_i h
    rw [B_size] at h
    rw [List.getD, List.getElem?_eq_none (by omega)]; rfl
theorem w64 {x : Int} (h0 : -9223372036854775808 ≤ x) (h1 : x ≤ 9223372036854775807) : wrap64 x = x := by unfold wrap64; omega

/-- Is a byte a digit? -/
def isDig (b : UInt8) : Bool := decide (48 ≤ b.toNat) && decide (b.toNat ≤ 57)
theorem isDig_iff (b : UInt8) : isDig b = true ↔ 48 ≤ b.toNat ∧ b.toNat ≤ 57 := by simp [isDig]
/-- Without noughts at the head; at the end. -/
def trimL (l : List UInt8) : List UInt8 := l.dropWhile (· == 48)
theorem trimLeftS_48 (l : List UInt8) : Lib.trimLeftS l [48] = trimL l := by
  unfold Lib.trimLeftS trimL; congr 1; funext b; simp only [List.contains_cons, List.contains_nil, Bool.or_false]
theorem repeatL_one (b : UInt8) (c : Nat) : Lib.repeatL [b] c = List.replicate c b := by
  induction c with
  | zero => rfl
  | succ c ih => simp [Lib.repeatL, ih, List.replicate_succ]
end Go.Proofs.YtfcenlhaepckoaaGreatDoor.P
