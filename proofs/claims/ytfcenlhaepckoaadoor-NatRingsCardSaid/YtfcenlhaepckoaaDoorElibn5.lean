import Derived.Test.YtfcenlhaepckoaaDoorShelfn5
import Derived.Test.YtfcenlhaepckoaaDoorProg
import Derived.Test.YtfcenlhaepckoaaDoorWWordsn5
import Derived.Lib.SmallJoins
import Derived.Below
import Derived.Lib.AppendIntMem
import Derived.Lib.ConvBytes
import Derived.Shelf.Strings.SlTrimAscii
import Derived.Shelf.Lays
import Derived.Shelf.LaysM
import Derived.Shelf.Strings.Repeat
import Derived.Shelf.Small.Strs
import Derived.Shelf.Small.Wraps
import Derived.Shelf.Strings.Prefix
import Derived.Shelf.Strconv.Itoa3
import Derived.Shelf.Strconv.Atoi
import Derived.Shelf.Small.Bits
import Derived.Deep.Draws
import Derived.Deep.AppendLies
import Derived.Maps.AppendAt
import Derived.OwnWalk
import Derived.Laws.BytesArg
import Derived.Laws.MakeOwn
import Derived.Laws.OwnMore
import Derived.Deep.OwnRows
import Derived.Tactics
import Derived.Laws.Slices
import Derived.WalkKit
import Derived.KernelRfl
import Derived.RowKit3
import Derived.Deep.LoopGhost
import Derived.Deep.QuietTactic
import Derived.BigQuiet
import Derived.WideLaws
import Derived.Deep.DeepCutAuto
import Derived.Deep.CutBlock
import Derived.Deep.RegionHeld3
import Derived.Laws.Rows
import Derived.Lib.AppendStr
import Derived.ArgAppend
import Derived.Laws.IdiomCopy
import Derived.RowKit
namespace Go.Proofs.YtfcenlhaepckoaaDoor.P
set_option linter.all false
open Go.RowKit Go.Shelf Go.Proofs.YtfcenlhaepckoaaDoorW.PrintWords

/-- The one table that a run reads. -/
def Tabs (w : World) : Prop := Lib.TabIs Tryd.prog w "internal/strconv.uint64pow10" .u64 Lib.pow10Tab
theorem Tabs.below {w w' : World} (h : Tabs w) (hb : Below w.heap.size w w') : Tabs w' := by
  unfold Tabs at h ⊢
  exact Go.Joins.tab_stays (g := 2) (by kernel_rfl) h hb (Nat.le_refl _)

theorem size_lit (a : Array UInt8) : (⟨a⟩ : ByteArray).size = a.size := rfl
/-- A cell behind a store into it, whatever it held: no side condition for the walk to pay. -/
theorem cell_after (w : World) (a : Addr) (v : Value) : (w.setCell a v).cell? a = (w.cell? a).map (fun _ => v) := by
  cases h : w.cell? a with
  | some u => exact World.cell?_setCell_same w a v h
  | none =>
    simp only [World.setCell, World.cell?, Array.getElem?_modify, if_true] at h ⊢
    cases hb : w.heap[a.block]? with
    | none => simp
    | some o =>
      cases o with
      | cells c e f =>
        cases hs : a.spot with
        | some _ => simp
        | none =>
          simp only [hb, hs, Option.isSome_none, Bool.false_eq_true, if_false, Array.getElem?_eq_none_iff] at h
          simp [h]
      | _ => simp

def asciiB (s : ByteArray) : Bool := s.data.toList.all fun b => decide (b.toNat < 128)
theorem ascii_at {s : ByteArray} (h : asciiB s = true) : ∀ (j : Nat) b, s.data.toList[j]? = some b → b.toNat < 128 := by
  intro j b hj
  have := List.all_eq_true.1 h b (List.mem_of_getElem? hj)
  simpa using this

def strings_TrimLeft.f (a0 a1 : ByteArray) : Option ByteArray :=
  if asciiB a1 = true ∧ a1.size < 4294967281 then some ⟨(Lib.trimLeftS a0.data.toList a1.data.toList).toArray⟩ else none
theorem strings_TrimLeft.calls (a0 a1 : ByteArray) (r : ByteArray) (w : World) (h : strings_TrimLeft.f a0 a1 = some r) :
    Calls Tryd.prog 37 #[.string a0, .string a1] w fun e w' => e = .returned (.string r) ∧ Below w.heap.size w w' := by
  unfold strings_TrimLeft.f at h
  split at h
  · rename_i hc
    obtain rfl := Option.some.inj h
    exact Any.strings_TrimLeft_laid Tryd.lays161 (by kernel_rfl) a0 a1 w hc.2 (ascii_at hc.1)
  · cases h

def strings_Trim.f (a0 a1 : ByteArray) : Option ByteArray :=
  if a0.size ≤ 9223372036854775807 ∧ asciiB a1 = true ∧ a1.size < 4294967281 then some ⟨(Lib.trimS a0.data.toList a1.data.toList).toArray⟩ else none
theorem strings_Trim.calls (a0 a1 : ByteArray) (r : ByteArray) (w : World) (h : strings_Trim.f a0 a1 = some r) :
    Calls Tryd.prog 36 #[.string a0, .string a1] w fun e w' => e = .returned (.string r) ∧ Below w.heap.size w w' := by
  unfold strings_Trim.f at h
  split at h
  · rename_i hc
    obtain rfl := Option.some.inj h
    exact Any.strings_Trim_laid Tryd.lays160 (by kernel_rfl) a0 a1 w hc.1 hc.2.2 (ascii_at hc.2.1)
  · cases h

def strings_Repeat.f (a0 : ByteArray) (a1 : Int) : Option ByteArray :=
  if 0 ≤ a1 ∧ a1 ≤ 9223372036854775807 ∧ a0.size * a1.toNat ≤ 140737488355328 then some ⟨(Lib.repeatL a0.data.toList a1.toNat).toArray⟩ else none
theorem strings_Repeat.calls (a0 : ByteArray) (a1 : Int) (r : ByteArray) (w : World) (h : strings_Repeat.f a0 a1 = some r) :
    Calls Tryd.prog 35 #[.string a0, .int .i64 a1] w fun e w' => e = .returned (.string r) ∧ Below w.heap.size w w' := by
  unfold strings_Repeat.f at h
  split at h
  · rename_i hc
    obtain rfl := Option.some.inj h
    obtain ⟨n, rfl⟩ := Int.eq_ofNat_of_zero_le hc.1
    exact Tryd.strings_Repeat a0 n w (by omega) hc.2.2
  · cases h

def strconv_Itoa.f (a0 : Int) : Option ByteArray := if -9223372036854775808 ≤ a0 ∧ a0 ≤ 9223372036854775807 then some ⟨(Lib.itoa a0).toArray⟩ else none
theorem strconv_Itoa.calls (a0 : Int) (r : ByteArray) (w : World) (hT : Tabs w) (h : strconv_Itoa.f a0 = some r) :
    Calls Tryd.prog 34 #[.int .i64 a0] w fun e w' => e = .returned (.string r) ∧ Below w.heap.size w w' := by
  unfold strconv_Itoa.f at h
  split at h
  · rename_i hc
    obtain rfl := Option.some.inj h
    exact (Tryd.strconv_Itoa a0 hc.1 hc.2 w hT).mono fun e w' ⟨he, k, os, hw⟩ => ⟨he, by rw [hw]; exact Lib.below_grow _ w (Nat.le_refl _) k os⟩
  · cases h

theorem below_bytesWorld (w : World) (e : TypeId) (s : ByteArray) : Below w.heap.size w (Lib.bytesWorld w e s) :=
  ⟨rfl, rfl, rfl, by rw [Lib.bytesWorld_size]; omega, fun k hk => Lib.bytesWorld_at_old w e s k hk⟩

def strconv_Atoi.f (a0 : ByteArray) : Option (Int × Option Int) := if a0.size ≤ 18 then (Lib.atoi a0.data.toList).map fun n => (n, none) else none
theorem strconv_Atoi_ok (a0 : ByteArray) (n : Int) (w : World) (hl : a0.size ≤ 18) (h : Lib.atoi a0.data.toList = some n) :
    Calls Tryd.prog 38 #[.string a0] w fun e w' => e = .returned (.tuple #[.int .i64 n, .nilIface]) ∧ Below w.heap.size w w' :=
  (Tryd.strconv_Atoi a0 n hl h w).mono fun e w' ⟨he, t, hw⟩ => ⟨he, by rw [hw]; exact below_bytesWorld w _ t⟩
end Go.Proofs.YtfcenlhaepckoaaDoor.P
