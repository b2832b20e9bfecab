-- Printed by a program of this session (wip/tools) over the kit's print: not trusted, Lean checks it.
import Derived.Test.YtfcenlhaepckoaaDoorProg
import Derived.Test.YtfcenlhaepckoaaDoorWWordsn5
import Derived.Test.YtfcenlhaepckoaaDoorWLastn5
import Derived.Test.YtfcenlhaepckoaaDoorWTabn5
import Derived.Test.YtfcenlhaepckoaaDoorWApartn5
import Derived.Test.YtfcenlhaepckoaaDoorWFootn5
import Derived.Test.YtfcenlhaepckoaaDoorWKeptn5
import Derived.Test.YtfcenlhaepckoaaDoorWSharen5
import Derived.Test.YtfcenlhaepckoaaDoorWNn5
import Derived.Test.YtfcenlhaepckoaaDoorWAtn5
import Derived.Test.YtfcenlhaepckoaaDoorWRepsOnen5
import Derived.Test.YtfcenlhaepckoaaDoorWGuardn5
import Derived.Test.YtfcenlhaepckoaaDoorWNEvn5
import Derived.Test.YtfcenlhaepckoaaDoorWMoren5
import Derived.Test.YtfcenlhaepckoaaDoorP0n5
import Derived.Test.YtfcenlhaepckoaaDoorElibn5
import Derived.Test.YtfcenlhaepckoaaDoorLibsn5
namespace Go.Proofs.YtfcenlhaepckoaaDoor.Q
set_option linter.all false
open Go.Proofs.YtfcenlhaepckoaaDoor.P
open Go.RowKit Go.Proofs.YtfcenlhaepckoaaDoorW.PrintWords Go.Proofs.YtfcenlhaepckoaaDoorW.PrintLast Go.Proofs.YtfcenlhaepckoaaDoorW.PrintMore
attribute [local go_sem] max2_int min2_int max_two min_two max_three min_three max_four min_four   -- for this text's walks alone
attribute [local go_sem] cell_after
set_option linter.unusedVariables false
set_option linter.unusedSimpArgs false

def errW : Option Int → Value
  | none => .nilIface
  | some c => .iface 0 (.int .i64 c)
theorem errW_none : errW none = .nilIface := rfl
theorem errW_some (c : Int) : errW (some c) = .iface 0 (.int .i64 c) := rfl

theorem info43 : (Tryd.prog.info? 43).map (fun i => (i.zero, i.size, i.bytes)) = some (some (.int .u32 0), 1, 4) := by kernel_rfl
-- the values' own types
def rd_L1 (xs : List (List Int)) (i : Int) : (List Int) := xs.getD i.toNat ([] : List Int)
theorem at_L1 {w : World} {A : Option Addr} {n : Nat} {xs : List (List Int)} (h : Kd.C (Kd.slice 43 (Kd.int .u32)) w A n xs) (i : Int) (h0 : 0 ≤ i) (h1 : i < n) : ∃ ad A0 c0, A = some ad ∧ w.cell? (ad.add i.toNat) = some (.slice A0 (rd_L1 xs i).length c0) ∧ (rd_L1 xs i).length ≤ c0 ∧ (Kd.int .u32).C w A0 (rd_L1 xs i).length (rd_L1 xs i) := by
  obtain ⟨ad, c, e, _, hK, hc0⟩ := Kd.C_get h ([] : List Int) i h0 h1
  have hc : ∀ j u, c[j]? = some u → w.cell? (ad.add (i.toNat * 1 + j)) = some u := hc0
  obtain ⟨A0, c0, rfl, l0, g0⟩ := hK
  exact ⟨ad, A0, c0, e, by have hq := hc 0 _ rfl; rwa [Nat.mul_one, Nat.add_zero] at hq, l0, g0⟩

end Go.Proofs.YtfcenlhaepckoaaDoor.Q
