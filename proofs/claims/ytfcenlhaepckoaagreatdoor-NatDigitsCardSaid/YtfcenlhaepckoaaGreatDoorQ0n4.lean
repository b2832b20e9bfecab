-- Printed by a program of this session (wip/tools) over the kit's print: not trusted, Lean checks it.
import Derived.Test.YtfcenlhaepckoaaGreatDoorProg
import Derived.Test.YtfcenlhaepckoaaGreatDoorWWordsn4
import Derived.Test.YtfcenlhaepckoaaGreatDoorWLastn4
import Derived.Test.YtfcenlhaepckoaaGreatDoorWTabn4
import Derived.Test.YtfcenlhaepckoaaGreatDoorWApartn4
import Derived.Test.YtfcenlhaepckoaaGreatDoorWFootn4
import Derived.Test.YtfcenlhaepckoaaGreatDoorWKeptn4
import Derived.Test.YtfcenlhaepckoaaGreatDoorWSharen4
import Derived.Test.YtfcenlhaepckoaaGreatDoorWNn4
import Derived.Test.YtfcenlhaepckoaaGreatDoorWAtn4
import Derived.Test.YtfcenlhaepckoaaGreatDoorWRepsOnen4
import Derived.Test.YtfcenlhaepckoaaGreatDoorWGuardn4
import Derived.Test.YtfcenlhaepckoaaGreatDoorWNEvn4
import Derived.Test.YtfcenlhaepckoaaGreatDoorWMoren4
import Derived.Test.YtfcenlhaepckoaaGreatDoorP0n4
import Derived.Test.YtfcenlhaepckoaaGreatDoorElibn4
import Derived.Test.YtfcenlhaepckoaaGreatDoorLibsn4
namespace Go.Proofs.YtfcenlhaepckoaaGreatDoor.Q
set_option linter.all false
open Go.Proofs.YtfcenlhaepckoaaGreatDoor.P
open Go.RowKit Go.Proofs.YtfcenlhaepckoaaGreatDoorW.PrintWords Go.Proofs.YtfcenlhaepckoaaGreatDoorW.PrintLast Go.Proofs.YtfcenlhaepckoaaGreatDoorW.PrintMore
attribute [local go_sem] max2_int min2_int max_two min_two max_three min_three max_four min_four   -- for this text's walks alone
attribute [local go_sem] cell_after
set_option linter.unusedVariables false
set_option linter.unusedSimpArgs false

def errW : Option Int → Value
  | none => .nilIface
  | some c => .iface 0 (.int .i64 c)
theorem errW_none : errW none = .nilIface := rfl
theorem errW_some (c : Int) : errW (some c) = .iface 0 (.int .i64 c) := rfl

theorem info63 : (Tryz.prog.info? 63).map (fun i => (i.zero, i.size, i.bytes)) = some (some (.int .u32 0), 1, 4) := by kernel_rfl
-- the values' own types
def rd_L1 (xs : List (List Int)) (i : Int) : (List Int) := xs.getD i.toNat ([] : List Int)
theorem at_L1 {w : World} {A : Option Addr} {n : Nat} {xs : List (List Int)} (h : Kd.C (Kd.slice 63 (Kd.int .u32)) w A n xs) (i : Int) (h0 : 0 ≤ i) (h1 : i < n) : ∃ ad A0 c0, A = some ad ∧ w.cell? (ad.add i.toNat) = some (.slice A0 (rd_L1 xs i).length c0) ∧ (rd_L1 xs i).length ≤ c0 ∧ (Kd.int .u32).C w A0 (rd_L1 xs i).length (rd_L1 xs i) := by
  obtain ⟨ad, c, e, _, hK, hc0⟩ := Kd.C_get h ([] : List Int) i h0 h1
  have hc : ∀ j u, c[j]? = some u → w.cell? (ad.add (i.toNat * 1 + j)) = some u := hc0
  obtain ⟨A0, c0, rfl, l0, g0⟩ := hK
  exact ⟨ad, A0, c0, e, by have hq := hc 0 _ rfl; rwa [Nat.mul_one, Nat.add_zero] at hq, l0, g0⟩

end Go.Proofs.YtfcenlhaepckoaaGreatDoor.Q
