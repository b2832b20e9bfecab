import Derived.Test.YtneeeaafhjaooaaGreatDoorProg
import Derived.Test.YtneeeaafhjaooaaGreatDoorBq6
import Derived.Lib.Strings
import Derived.Lib.Repeat
import Derived.Lib.SlTrimSet
import Derived.Lib.Bytealg
import Derived.WalkKit
import Derived.LoopTactic
import Derived.Laws.RangeString
import Derived.Laws.RangeAny
import Derived.Lib.OthersKept
import Derived.Below
import Derived.Lib.Hide
import Derived.OrdersHeld
import Derived.Deep.RegionHeld3
import Derived.Laws.BitsLemmas
import Derived.RowKit
import Derived.Deep.Draws
import Derived.Deep.AppendLies
import Derived.Maps.AppendAt
import Derived.OwnWalk
import Derived.Laws.BytesArg
import Derived.Laws.MakeOwn
import Derived.Laws.OwnMore
import Derived.Deep.OwnRows
import Derived.Tactics
import Derived.Lib.ConvBytes
import Derived.Laws.Slices
import Derived.KernelRfl
import Derived.RowKit3
import Derived.Deep.LoopGhost
import Derived.Deep.QuietTactic
import Derived.BigQuiet
import Derived.WideLaws
import Derived.Deep.DeepCutAuto
import Derived.Deep.CutBlock
import Derived.Laws.Rows
import Derived.Lib.AppendStr
import Derived.ArgAppend
import Derived.Laws.IdiomCopy
namespace Go.Proofs.YtneeeaafhjaooaaGreatDoor.P
set_option linter.all false
open Go.RowKit

def decimal_plain.f (a0 : ByteArray) : Option Bool := some (a0.data.toList.all isDig)

theorem plain_take (s : ByteArray) (k : Nat) (h : k < s.size) : s.data.toList.take (k + 1) = s.data.toList.take k ++ [s[k]] := by
  rw [List.take_succ_eq_append_getElem (by simpa using h)]; rfl

theorem plain_bad (s : ByteArray) (pos : Nat) (h : pos < s.size) (hd : isDig (s[pos]'h) = false) : s.data.toList.all isDig = false := by
  rw [List.all_eq_false]
  refine ⟨s[pos], ?_, by simp [hd]⟩
  show s.data[pos] ∈ s.data.toList
  exact Array.getElem_mem_toList _

theorem plain_dig (s : ByteArray) (pos : Nat) (h : pos < s.size) (hd : isDig (s[pos]'h) = true) :
    Utf8.decode s pos = ((s[pos]'h).toNat, 1) ∧ 48 ≤ (s[pos]'h).toNat ∧ (s[pos]'h).toNat ≤ 57 := by
  simp only [isDig, Bool.and_eq_true, decide_eq_true_eq] at hd
  exact ⟨decode_ascii s pos h (by omega), hd.1, hd.2⟩

theorem plain_nodig (s : ByteArray) (pos : Nat) (h : pos < s.size) (hd : isDig (s[pos]'h) = false) :
    ((Utf8.decode s pos).1 : Int) < 48 ∨ 57 < ((Utf8.decode s pos).1 : Int) := by
  simp only [isDig, Bool.and_eq_false_iff, decide_eq_false_iff_not] at hd
  by_cases ha : (s[pos]'h).toNat < 128
  · rw [decode_ascii s pos h ha]; simp only; omega
  · have := (decode_high s pos h (by omega)).1; omega

set_option maxHeartbeats 4000000 in
set_option maxRecDepth 1000000 in
theorem decimal_plain.calls (a0 : ByteArray) (r : Bool) (w : World) (h : decimal_plain.f a0 = some r) :
    Calls Tryz.prog 18 #[.string a0] w fun e w' => e = .returned (.bool r) ∧ Below w.heap.size w w' := by
  have HR := Lib.hid (show a0.data.toList.all isDig = r from by simpa only [decimal_plain.f, Option.some.injEq] using h)
  clear h
  go_enter Tryz.func18, Tryz.ntmps18
  go_wp2
  go_loopw [] (fun w' => ∃ (pos : Nat), w' = w.iter a0 pos ∧ pos ≤ a0.size ∧ (a0.data.toList.take pos).all isDig = true) (fun w' => a0.size - w'.iterPos w.heap.size)
  case atStart => exact ⟨0, rfl, Nat.zero_le _, rfl⟩
  case round =>
    obtain ⟨pos, rfl, hle, hall⟩ := hrel
    by_cases hp : pos < a0.size
    · have hnx : ∀ ty, (Instr.next (.pointer (some ⟨w.heap.size, 0, none⟩)) true ty).run Tryz.prog (w.iter a0 pos) = _ := fun ty => run_next_any w a0 pos ty hp
      cases hd : isDig (a0[pos]'hp) with
      | true =>
        obtain ⟨hdec, h1, h2⟩ := plain_dig a0 pos hp hd
        have htk := plain_take a0 pos hp
        have H0 : (a0.data.toList.take (pos + 1)).all isDig = true := by rw [htk, List.all_append, hall]; simp [hd]
        have H := Lib.hid H0
        rw [hdec] at hnx
        clear hdec htk hall hd H0
        go_wp2
        go_roundw
        case rel => exact ⟨pos + 1, rfl, hp, H.out⟩
        case measure => simp; omega
      | false =>
        have hno := plain_nodig a0 pos hp hd
        have H := Lib.hid (plain_bad a0 pos hp hd)
        clear hd hall
        go_wp2
        all_goals
          go_ret
          obtain rfl := H.out.symm.trans HR.out
          exact ⟨rfl, (Below.refl _ w).alloc (Nat.le_refl _) _⟩
    · have hnx : ∀ ty, (Instr.next (.pointer (some ⟨w.heap.size, 0, none⟩)) true ty).run Tryz.prog (w.iter a0 pos) = _ := fun ty => run_next_end w a0 pos ty hp
      go_wp2
      go_ret
      rw [List.take_of_length_le (by simp only [Array.length_toList]; exact Nat.not_lt.1 hp)] at hall
      obtain rfl := hall.symm.trans HR.out
      exact ⟨rfl, (Below.refl _ w).alloc (Nat.le_refl _) _⟩
end Go.Proofs.YtneeeaafhjaooaaGreatDoor.P
