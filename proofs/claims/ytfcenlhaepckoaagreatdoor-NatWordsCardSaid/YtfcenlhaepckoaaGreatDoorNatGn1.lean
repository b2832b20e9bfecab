import Derived.Test.YtfcenlhaepckoaaGreatDoorNatCn1
import Derived.Test.YtfcenlhaepckoaaGreatDoorNatBn1
import Derived.Test.YtfcenlhaepckoaaGreatDoorP0n1
import Derived.Test.YtfcenlhaepckoaaGreatDoorProg
import Derived.Test.YtfcenlhaepckoaaGreatDoorP4n1
import Derived.Test.YtfcenlhaepckoaaGreatDoorNatAn1
import Derived.Test.YtfcenlhaepckoaaGreatDoorLibsn1
import Derived.Lib.Strings
import Derived.Lib.Repeat
import Derived.Lib.SlTrimSet
import Derived.Lib.Bytealg
import Derived.Laws.MathBits
namespace Go.Proofs.YtfcenlhaepckoaaGreatDoor.P
set_option linter.all false
set_option linter.unusedSimpArgs false
open Go.RowKit Go.Proofs.YtfcenlhaepckoaaGreatDoorW.PrintWords Go.Proofs.YtfcenlhaepckoaaGreatDoorW.PrintLast Go.Proofs.YtfcenlhaepckoaaGreatDoorW.PrintMore

theorem val_drop (l : List Int) (i : Nat) (h : i < l.length) : val (l.drop i) = rd l (i : Int) + 4294967296 * val (l.drop (i + 1)) := by
  rw [List.drop_eq_getElem_cons h, val]
  congr 1
  unfold rd; rw [Int.toNat_natCast, List.getD, List.getElem?_eq_getElem h]; rfl
theorem short_step {r x d : Int} (hd0 : 0 < d) (hd : d < 4294967296) (hr0 : 0 ≤ r) (hr : r < d) (hx0 : 0 ≤ x) (hx : x < 4294967296) :
    0 ≤ (r * 4294967296 + x) / d ∧ (r * 4294967296 + x) / d < 4294967296 ∧ 0 ≤ (r * 4294967296 + x) % d ∧ (r * 4294967296 + x) % d < d := by
  refine ⟨Int.ediv_nonneg (by omega) (by omega), ?_, Int.emod_nonneg _ (by omega), Int.emod_lt_of_pos _ hd0⟩
  apply Int.ediv_lt_of_lt_mul hd0
  have := Int.mul_le_mul_of_nonneg_right (show r + 1 ≤ d by omega) (show (0 : Int) ≤ 4294967296 by decide)
  omega
theorem short_loop (d : Int) (hd0 : 0 < d) (hd : d < 4294967296) (n : Nat) (hn : n ≤ 1000000) : ∀ m i x r, i + m = n → x.length = n → Lim x → 0 ≤ r → r < d →
    ∃ y, Ev (fun k => nat_short.l0 k x d r (n : Int) (i : Int)) ((r * PW m + val (x.take m)) % d, y) ∧ y.length = n ∧ Lim y ∧ val (y.take m) = (r * PW m + val (x.take m)) / d ∧ y.drop m = x.drop m := by
  intro m
  induction m with
  | zero =>
    intro i x r hi hx lx hr0 hr
    refine ⟨x, ?_, hx, lx, ?_, rfl⟩
    · refine Ev.step (fun k => by rw [nat_short.l0]) ?_
      simp only [if_neg (show ¬ ((i : Int) < (n : Int)) by omega), List.take_zero, PW_zero, val, Int.mul_one, Int.add_zero]
      rw [Int.emod_eq_of_lt hr0 hr, show r % 4294967296 = r by omega]
      exact Ev.now _
    · simp only [List.take_zero, PW_zero, val, Int.mul_one, Int.add_zero]
      rw [Int.ediv_eq_zero_of_lt hr0 hr]
  | succ m ih =>
    intro i x r hi hx lx hr0 hr
    have hxm := lim_rd lx (m : Int)
    have hs := short_step hd0 hd hr0 hr hxm.1 hxm.2
    have e1 : wrap64 (wrap64 ((x.length : Int) - 1) - (i : Int)) = (m : Int) := by rw [w64 (x := (x.length : Int) - 1) (by omega) (by omega), w64 (by omega) (by omega)]; omega
    obtain ⟨y, hy, hyl, ly, hyv, hyd⟩ := ih (i + 1) (x.set m ((r * 4294967296 + rd x (m : Int)) / d)) ((r * 4294967296 + rd x (m : Int)) % d) (by omega) (by rw [List.length_set]; exact hx) (lx.set _ hs.1 hs.2.1) hs.2.2.1 hs.2.2.2
    have et : (x.set m ((r * 4294967296 + rd x (m : Int)) / d)).take m = x.take m := by rw [List.take_set_of_le (Nat.le_refl _)]
    have key : r * PW (m + 1) + val (x.take (m + 1)) = PW m * (r * 4294967296 + rd x (m : Int)) + val (x.take m) := by
      rw [PW_succ, val_take_succ x m (by omega)]; grind
    have split : (r * 4294967296 + rd x (m : Int)) = d * ((r * 4294967296 + rd x (m : Int)) / d) + (r * 4294967296 + rd x (m : Int)) % d := (Int.mul_ediv_add_emod _ _).symm
    have key2 : r * PW (m + 1) + val (x.take (m + 1)) = ((r * 4294967296 + rd x (m : Int)) % d * PW m + val (x.take m)) + d * (PW m * ((r * 4294967296 + rd x (m : Int)) / d)) := by
      rw [key]
      generalize (r * 4294967296 + rd x (m : Int)) / d = Q at *
      generalize (r * 4294967296 + rd x (m : Int)) % d = M at *
      rw [split]; grind
    rw [et] at hy hyv
    refine ⟨y, ?_, hyl, ly, ?_, ?_⟩
    · refine Ev.step (fun k => by rw [nat_short.l0]) ?_
      simp only [e1, if_pos (show ((i : Int) < (n : Int)) by omega), if_pos (show (0 : Int) ≤ (m : Int) by omega), if_pos (show (m : Int) < (x.length : Int) by omega), u64w (show 0 ≤ d by omega) (show d < 18446744073709551616 by omega), if_neg (show ¬ (d = 0) by omega),
        u64w (show 0 ≤ r * 4294967296 by omega) (show r * 4294967296 < 18446744073709551616 by omega), u64w hxm.1 (show rd x (m : Int) < 18446744073709551616 by omega), orHi hxm.1 hxm.2 hr0 (show r < 4294967296 by omega), Int.toNat_natCast, w64s (show i ≤ 1000000000 by omega)]
      rw [Int.tdiv_eq_ediv_of_nonneg (by omega), Int.tmod_eq_emod_of_nonneg (by omega), u64w hs.1 (by omega), show (r * 4294967296 + rd x (m : Int)) / d % 4294967296 = (r * 4294967296 + rd x (m : Int)) / d by omega]
      rw [key2, Int.add_mul_emod_self_left]
      exact hy
    · have hym : rd y (m : Int) = (r * 4294967296 + rd x (m : Int)) / d := by
        have h0 := congrArg (fun l : List Int => l.getD 0 0) hyd
        simp only [List.getD, List.getElem?_drop, Nat.add_zero] at h0
        unfold rd
        rw [Int.toNat_natCast, List.getD, h0, List.getElem?_set_self (by omega)]; rfl
      rw [val_take_succ y m (by omega), hyv, hym, key2, Int.add_mul_ediv_left _ _ (by omega)]
    · have h1 := congrArg (List.drop 1) hyd
      rw [List.drop_drop, List.drop_drop, List.drop_set_of_lt (by omega)] at h1
      exact h1
theorem short_ev (x : List Int) (d : Int) (hd0 : 0 < d) (hd : d < 4294967296) (hn : x.length ≤ 1000000) (lx : Lim x) :
    ∃ y, Ev (fun k => nat_short.f k x d) (val x % d, y) ∧ y.length = x.length ∧ Lim y ∧ val y = val x / d := by
  obtain ⟨y, h1, h2, h3, h4, _⟩ := short_loop d hd0 hd x.length hn x.length 0 x 0 (by omega) rfl lx (by omega) hd0
  rw [List.take_length, Int.zero_mul, Int.zero_add] at h1 h4
  rw [List.take_of_length_le (by omega)] at h4
  exact ⟨y, h1, h2, h3, h4⟩
end Go.Proofs.YtfcenlhaepckoaaGreatDoor.P
