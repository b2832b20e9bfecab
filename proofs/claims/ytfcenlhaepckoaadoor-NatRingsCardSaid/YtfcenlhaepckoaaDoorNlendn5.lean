import Derived.Test.YtfcenlhaepckoaaDoorNsubn5
import Derived.Test.YtfcenlhaepckoaaDoorP4n5
import Derived.Test.YtfcenlhaepckoaaDoorP0n5
import Derived.Test.YtfcenlhaepckoaaDoorProg
import Derived.Test.YtfcenlhaepckoaaDoorNsubrn5
import Derived.Test.YtfcenlhaepckoaaDoorLibsn5
namespace Go.Proofs.YtfcenlhaepckoaaDoor.P
set_option linter.all false
open Go.RowKit Go.Proofs.YtfcenlhaepckoaaDoorW.PrintWords Go.Proofs.YtfcenlhaepckoaaDoorW.PrintLast Go.Proofs.YtfcenlhaepckoaaDoorW.PrintMore
theorem nat_shift_lend.calls (k : Nat) (P0_ : Nat → Prop) (v0 : Value) (X : List Int) (A1 : Option Addr) (c1 : Nat) (l1 : List Int) (a2 : Int) (r : List Int) (w0 w : World) (hB : Below w0.heap.size w0 w)
    (ho0 : Kd.R (Kd.int .u32) 43 w w0.heap.size P0_ v0 X) (hr1 : ∀ W_, Kept w W_ (fun k_ => P0_ k_) → Kd.C (Kd.int .u32) W_ A1 l1.length l1) (hc1 : l1.length ≤ c1)
    {lo hi : Nat} {A0 A' : Option Addr} {n0 c c' : Nat} {l' : List Int} (h : nat_shift.f k l' l1 a2 = some r) (hv : v0 = .slice A0 n0 c) (hlt : lo < hi) (h2 : hi ≤ X.length) (hA : A' = if c = lo then A0 else A0.map (·.add (lo * 1))) (hc : c' = c - lo) (hl : l' = (X.take hi).drop lo) :
    Calls Tryd.prog 33 #[.slice A' l'.length c', .slice A1 l1.length c1, .int .i64 a2] w fun e w' => e = .returned (.tuple #[]) ∧
      Kd.R (Kd.int .u32) 43 w' w0.heap.size (fun k_ => (P0_ k_ ∨ w.heap.size ≤ k_)) v0 (X.take lo ++ r ++ X.drop hi) ∧ Below w0.heap.size w0 w' ∧ Kept w w' (fun k_ => P0_ k_) := by
  subst hv
  have hr := Kd.R_reads' ho0
  obtain ⟨g, cap, e0, _, _, _⟩ := Kd.R_form ho0 (by omega)
  injection e0 with e1 e2 e3
  subst e1
  have hlc : ¬ (c = lo) := by have := hr.2.1; omega
  rw [if_neg hlc] at hA
  have hA2 : A' = some ⟨g, lo, none⟩ := by
    rw [hA]
    show some ((⟨g, 0, none⟩ : Addr).add (lo * 1)) = _
    simp [Addr.add]
    exact fun h_ => h_.symm
  subst hA2
  subst hc
  have hll : l'.length = hi - lo := by rw [hl, List.length_drop, List.length_take]; omega
  rw [hll]
  subst hl
  refine (nat_shift_sub.calls (X.take lo) (X.drop hi) k P0_ _ _ A1 c1 l1 a2 r w0 w hB (SubR_of ho0 (Nat.le_of_lt hlt) h2) hr1 hc1 h).mono ?_
  rintro e w' ⟨he, hs, hb, hk⟩
  have hl : (X.take lo).length = lo := by rw [List.length_take]; omega
  have hn := SubR_length hs
  have hb' := SubR_back hs (by omega)
  have hr2 := hr.1
  rw [List.length_append, List.length_append, hl, List.length_drop, ← hn, show lo + (hi - lo) + (X.length - hi) = n0 by omega] at hb'
  exact ⟨he, hb', hb, hk⟩
end Go.Proofs.YtfcenlhaepckoaaDoor.P
