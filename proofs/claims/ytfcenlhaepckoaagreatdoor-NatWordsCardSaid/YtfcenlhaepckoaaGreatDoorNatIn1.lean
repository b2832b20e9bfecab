import Derived.Test.YtfcenlhaepckoaaGreatDoorNatFn1
import Derived.Test.YtfcenlhaepckoaaGreatDoorNatCn1
import Derived.Test.YtfcenlhaepckoaaGreatDoorNatBn1
import Derived.Test.YtfcenlhaepckoaaGreatDoorP0n1
import Derived.Test.YtfcenlhaepckoaaGreatDoorProg
import Derived.Test.YtfcenlhaepckoaaGreatDoorNatAn1
import Derived.Test.YtfcenlhaepckoaaGreatDoorLibsn1
import Derived.Lib.Strings
import Derived.Lib.Repeat
import Derived.Lib.SlTrimSet
import Derived.Lib.Bytealg
import Derived.Laws.MathBits
namespace Go.Proofs.YtfcenlhaepckoaaGreatDoor.P
set_option linter.all false
set_option linter.unusedSimpArgs false
open Go.RowKit Go.Proofs.YtfcenlhaepckoaaGreatDoorW.PrintWords Go.Proofs.YtfcenlhaepckoaaGreatDoorW.PrintLast Go.Proofs.YtfcenlhaepckoaaGreatDoorW.PrintMore

def shlR (z n : Int) : List Int × Int :=
  if n < 0 then ([], 1) else if big z = true then ([], 2) else if can z = [] then ([], 0)
  else if n > 8192 ∨ lenR z + n > 8192 then ([], 2) else (can (z * PW (n.toNat / 32) * 2 ^ (n.toNat % 32)), 0)
theorem lenR_bound {z : Int} (hz : 0 ≤ z) (hb : big z = false) : 0 ≤ lenR z ∧ lenR z ≤ 8192 := by
  unfold lenR
  have hl := not_big_len hb
  split
  · omega
  · rename_i h
    have hp := List.length_pos_iff.2 h
    have hr := lim_rd (can_Lim z) (((can z).length : Int) - 1)
    have := bitLen_le (rd (can z) (((can z).length : Int) - 1)).toNat (by omega)
    omega
end Go.Proofs.YtfcenlhaepckoaaGreatDoor.P
