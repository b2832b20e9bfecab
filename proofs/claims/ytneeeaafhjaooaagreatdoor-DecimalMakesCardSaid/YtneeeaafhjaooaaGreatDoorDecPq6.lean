import Derived.Test.YtneeeaafhjaooaaGreatDoorBq6
import Derived.Lib.Strings
import Derived.Lib.Repeat
import Derived.Lib.SlTrimSet
import Derived.Lib.Bytealg
import Derived.OrdersHeld
import Derived.Deep.RegionHeld3
import Derived.Laws.BitsLemmas
import Derived.RowKit
import Derived.Below
import Derived.Deep.Draws
import Derived.Deep.AppendLies
import Derived.Maps.AppendAt
import Derived.OwnWalk
import Derived.Laws.BytesArg
import Derived.Laws.MakeOwn
import Derived.Laws.OwnMore
import Derived.Deep.OwnRows
import Derived.Tactics
import Derived.Lib.ConvBytes
import Derived.Laws.Slices
import Derived.WalkKit
import Derived.KernelRfl
import Derived.RowKit3
import Derived.Deep.LoopGhost
import Derived.Deep.QuietTactic
import Derived.BigQuiet
import Derived.WideLaws
import Derived.Deep.DeepCutAuto
import Derived.Deep.CutBlock
import Derived.Laws.Rows
import Derived.Lib.AppendStr
import Derived.ArgAppend
import Derived.Laws.IdiomCopy
set_option linter.unusedSimpArgs false
set_option linter.unusedVariables false
namespace Go.Proofs.YtneeeaafhjaooaaGreatDoor.P
set_option linter.all false

/-- Two rows of digits, noughts behind them. -/
def padL : List UInt8 → List UInt8 → Int
  | [], [] => 0
  | a :: l, [] => if a.toNat < 48 then -1 else if a.toNat > 48 then 1 else padL l []
  | [], b :: m => if 48 < b.toNat then -1 else if 48 > b.toNat then 1 else padL [] m
  | a :: l, b :: m => if a.toNat < b.toNat then -1 else if a.toNat > b.toNat then 1 else padL l m

theorem padL_step (l m : List UInt8) (h : l ≠ [] ∨ m ≠ []) :
    padL l m = if (l.getD 0 48).toNat < (m.getD 0 48).toNat then -1 else if (l.getD 0 48).toNat > (m.getD 0 48).toNat then 1 else padL l.tail m.tail := by
  cases l with
  | nil => cases m with
    | nil => simp at h
    | cons b m => rw [padL]; rfl
  | cons a l => cases m with
    | nil => rw [padL]; rfl
    | cons b m => rw [padL]; rfl
theorem padL_nn : padL [] [] = 0 := by rw [padL]
theorem padL_neg : ∀ l m : List UInt8, padL m l = -padL l m
  | [], [] => by rw [padL_nn]; rfl
  | a :: l, [] => by
    have ih := padL_neg l []
    unfold padL
    by_cases h1 : a.toNat < 48
    · rw [if_neg (by omega), if_pos (by omega), if_pos h1]; rfl
    · by_cases h2 : a.toNat > 48
      · rw [if_pos (by omega), if_neg h1, if_pos h2]
      · rw [if_neg (by omega), if_neg (by omega), if_neg h1, if_neg h2, ih]
  | [], b :: m => by
    have ih := padL_neg [] m
    unfold padL
    by_cases h1 : b.toNat < 48
    · rw [if_pos h1, if_neg (by omega), if_pos (by omega)]
    · by_cases h2 : b.toNat > 48
      · rw [if_neg h1, if_pos h2, if_pos (by omega)]; rfl
      · rw [if_neg h1, if_neg h2, if_neg (by omega), if_neg (by omega), ih]
  | a :: l, b :: m => by
    have ih := padL_neg l m
    unfold padL
    by_cases h1 : a.toNat < b.toNat
    · rw [if_neg (by omega), if_pos (by omega), if_pos h1]; rfl
    · by_cases h2 : a.toNat > b.toNat
      · rw [if_pos (by omega), if_neg h1, if_pos h2]
      · rw [if_neg (by omega), if_neg (by omega), if_neg h1, if_neg h2, ih]

/-- A row of digits that ends in no nought is above nought. -/
theorem padL_nil : ∀ m : List UInt8, m.all isDig = true → m ≠ [] → m.getD (m.length - 1) 0 ≠ 48 → padL [] m = -1
  | [], _, h, _ => absurd rfl h
  | b :: m, hd, _, hl => by
    rw [List.all_cons, Bool.and_eq_true] at hd
    have hb := (isDig_iff b).1 hd.1
    unfold padL
    by_cases h1 : 48 < b.toNat
    · rw [if_pos h1]
    · rw [if_neg h1, if_neg (by omega)]
      have hb48 : b = 48 := UInt8.toNat_inj.1 (by show b.toNat = 48; omega)
      cases m with
      | nil => exact absurd hb48 (by simpa using hl)
      | cons c m =>
        refine padL_nil (c :: m) hd.2 (by simp) ?_
        intro q; apply hl; rw [← q]; simp
theorem padL_bytes : ∀ l m : List UInt8, l.all isDig = true → m.all isDig = true → (l ≠ [] → l.getD (l.length - 1) 0 ≠ 48) → (m ≠ [] → m.getD (m.length - 1) 0 ≠ 48) → padL l m = Lib.compareBytes l m
  | [], [], _, _, _, _ => by rw [padL_nn]; rfl
  | [], b :: m, _, hm, _, h2 => by rw [padL_nil (b :: m) hm (by simp) (h2 (by simp))]; rfl
  | a :: l, [], hl, _, h1, _ => by rw [padL_neg [] (a :: l), padL_nil (a :: l) hl (by simp) (h1 (by simp))]; rfl
  | a :: l, b :: m, hl, hm, h1, h2 => by
    rw [List.all_cons, Bool.and_eq_true] at hl hm
    have ih := padL_bytes l m hl.2 hm.2 (fun q => by
      intro z; apply h1 (by simp); rw [← z]
      cases l with
      | nil => exact absurd rfl q
      | cons c l => simp) (fun q => by
      intro z; apply h2 (by simp); rw [← z]
      cases m with
      | nil => exact absurd rfl q
      | cons c m => simp)
    unfold padL Lib.compareBytes
    rw [ih]
    by_cases c1 : a.toNat < b.toNat
    · rw [if_pos c1, if_pos (UInt8.lt_iff_toNat_lt.2 c1)]
    · rw [if_neg c1, if_neg (fun q => c1 (UInt8.lt_iff_toNat_lt.1 q))]
      by_cases c2 : a.toNat > b.toNat
      · rw [if_pos c2, if_pos (UInt8.lt_iff_toNat_lt.2 c2)]
      · rw [if_neg c2, if_neg (fun q => c2 (UInt8.lt_iff_toNat_lt.1 q))]

end Go.Proofs.YtneeeaafhjaooaaGreatDoor.P
