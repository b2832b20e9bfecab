import Derived.Test.YtfcenlhaepckoaaDoorWWordsn5
import Derived.Test.YtfcenlhaepckoaaDoorWMoren5
import Derived.Test.YtfcenlhaepckoaaDoorWSharen5
import Derived.OrdersHeld
import Derived.Deep.RegionHeld3
import Derived.Laws.BitsLemmas
import Derived.RowKit
import Derived.Below
import Derived.Deep.Draws
import Derived.Deep.AppendLies
import Derived.Maps.AppendAt
import Derived.OwnWalk
import Derived.Laws.BytesArg
import Derived.Laws.MakeOwn
import Derived.Laws.OwnMore
import Derived.Deep.OwnRows
import Derived.Tactics
import Derived.Lib.ConvBytes
import Derived.Laws.Slices
import Derived.WalkKit
import Derived.KernelRfl
import Derived.RowKit3
import Derived.Deep.LoopGhost
import Derived.Deep.QuietTactic
import Derived.BigQuiet
import Derived.WideLaws
import Derived.Deep.DeepCutAuto
import Derived.Deep.CutBlock
import Derived.Laws.Rows
import Derived.Lib.AppendStr
import Derived.ArgAppend
import Derived.Laws.IdiomCopy
namespace Go.Proofs.YtfcenlhaepckoaaDoor.P
set_option linter.all false
open Go.RowKit Go.Proofs.YtfcenlhaepckoaaDoorW.PrintWords Go.Proofs.YtfcenlhaepckoaaDoorW.PrintLast Go.Proofs.YtfcenlhaepckoaaDoorW.PrintMore
/-- From one world to another by what makes memory or draws. -/
inductive Stp : World → World → Prop
  | refl (w : World) : Stp w w
  | al {w w' : World} (h : Stp w w') (o : Obj) : Stp w (w'.alloc o)
  | dn {w w' : World} (h : Stp w w') (n : Nat) : Stp w (w'.drewN n)
  | dr {w w' : World} (h : Stp w w') : Stp w w'.drew
section
variable {α : Type} {d : Kd α} {W W' w0 w1 : World} {A : Option Addr} {n e base b : Nat} {ok : Nat → Prop} {v : Value} {xs : List α}
theorem ca_ (h : d.C W A n xs) (s : Stp W W' := by (with_reducible repeat (first | apply Stp.al | apply Stp.dn | apply Stp.dr)); exact Stp.refl _) : d.C W' A n xs := by
  induction s with
  | refl => exact h
  | al _ o ih => exact Kd.C_alloc ih o
  | dn _ n ih => exact Kd.C_drewN ih n
  | dr _ ih => exact Kd.C_drew ih
theorem ra_ (h : d.R e W base ok v xs) (s : Stp W W' := by (with_reducible repeat (first | apply Stp.al | apply Stp.dn | apply Stp.dr)); exact Stp.refl _) : d.R e W' base ok v xs := by
  induction s with
  | refl => exact h
  | al _ o ih => exact Kd.R_alloc ih o
  | dn _ n ih => exact Kd.R_drewN ih n
  | dr _ ih => exact Kd.R_drew ih
theorem va_ (h : d.V e W base ok v xs) (s : Stp W W' := by (with_reducible repeat (first | apply Stp.al | apply Stp.dn | apply Stp.dr)); exact Stp.refl _) : d.V e W' base ok v xs := by
  induction s with
  | refl => exact h
  | al _ o ih => exact Kd.V_alloc ih o
  | dn _ n ih => exact Kd.V_drewN ih n
  | dr _ ih => exact Kd.V_drew ih
theorem bl_ (h : Below b w0 w1 := by repeat (first | (with_reducible first | exact HB.out | apply below_alloc | apply pw_below_drewN | apply below_drew1) | exact HB.out)) : Below b w0 w1 := h
end
theorem od_ {p : Prop} [Decidable p] (h : decide p = true := by first | (with_reducible assumption) | assumption) : p := of_decide_eq_true h
theorem am_ {α : Type} {x y : α} (h : x = y := by (try simp only [List.map_toArray, List.map_cons, List.map_nil]); first | done | rfl | (simp only [List.length_drop, List.length_take]; rfl)) : x = y := h
end Go.Proofs.YtfcenlhaepckoaaDoor.P
