import Derived.Test.YtfcenlhaepckoaaDoorProg
import Derived.Test.YtfcenlhaepckoaaDoorP0n5
import Derived.Test.YtfcenlhaepckoaaDoorLibsn5
namespace Go.Proofs.YtfcenlhaepckoaaDoor.P
set_option linter.all false
open Go.RowKit Go.Proofs.YtfcenlhaepckoaaDoorW.PrintWords Go.Proofs.YtfcenlhaepckoaaDoorW.PrintLast Go.Proofs.YtfcenlhaepckoaaDoorW.PrintMore
theorem lit01_R (W : World) : Kd.R (Kd.int .u32) 43 (W.alloc (.cells #[.int .u32 0, .int .u32 1] 43)) W.heap.size (fun _ => True) (.slice (some ⟨W.heap.size, 0, none⟩) ([0, 1] : List Int).length 2) [0, 1] := by
  refine ⟨fun _ _ => trivial, [.int .u32 0, .int .u32 1], ?_, ?_⟩
  · have h2 := World.ownsRow_lit (base := W.heap.size) (e := 43) (size := 1) W #[.int .u32 0, .int .u32 1] 2 (Nat.le_refl _) (by decide) (by decide)
    exact h2
  · exact (Reps.one (show Kd.M (Kd.int .u32) _ _ _ 0 [.int .u32 0] from rfl) (Reps.one (show Kd.M (Kd.int .u32) _ _ _ 1 [.int .u32 1] from rfl) (Reps.none _ _)))
theorem lit01_C (W : World) : Kd.C (Kd.int .u32) (W.alloc (.cells #[.int .u32 0, .int .u32 1] 43)) (some ⟨W.heap.size, 0, none⟩) ([0, 1] : List Int).length [0, 1] := (Kd.R_reads' (lit01_R W)).2.2
end Go.Proofs.YtfcenlhaepckoaaDoor.P
