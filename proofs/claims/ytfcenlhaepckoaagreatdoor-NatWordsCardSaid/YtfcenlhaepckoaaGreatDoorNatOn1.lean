import Derived.Test.YtfcenlhaepckoaaGreatDoorNatNn1
import Derived.Test.YtfcenlhaepckoaaGreatDoorNatMn1
import Derived.Test.YtfcenlhaepckoaaGreatDoorProg
import Derived.Test.YtfcenlhaepckoaaGreatDoorP0n1
import Derived.Test.YtfcenlhaepckoaaGreatDoorQ1n1
import Derived.Test.YtfcenlhaepckoaaGreatDoorNatGn1
import Derived.Test.YtfcenlhaepckoaaGreatDoorNatFn1
import Derived.Test.YtfcenlhaepckoaaGreatDoorNatEn1
import Derived.Test.YtfcenlhaepckoaaGreatDoorNatDn1
import Derived.Test.YtfcenlhaepckoaaGreatDoorNatCn1
import Derived.Test.YtfcenlhaepckoaaGreatDoorNatBn1
import Derived.Test.YtfcenlhaepckoaaGreatDoorNatAn1
import Derived.Test.YtfcenlhaepckoaaGreatDoorNumn1
import Derived.Test.YtfcenlhaepckoaaGreatDoorLibsn1
import Derived.Lib.Strings
import Derived.Lib.Repeat
import Derived.Lib.SlTrimSet
import Derived.Lib.Bytealg
import Derived.Laws.MathBits
import Derived.Lib.Atoi
import Derived.Lib.ItoaNum
namespace Go.Proofs.YtfcenlhaepckoaaGreatDoor.P
set_option linter.all false
set_option linter.unusedSimpArgs false
open Go.RowKit Go.Proofs.YtfcenlhaepckoaaGreatDoorW.PrintWords Go.Proofs.YtfcenlhaepckoaaGreatDoorW.PrintLast Go.Proofs.YtfcenlhaepckoaaGreatDoorW.PrintMore
open Go.Proofs.YtfcenlhaepckoaaGreatDoor.Q

def divR (x y : Int) : List Int × List Int × Int :=
  if (big x || big y) = true then ([], [], 2) else if y = 0 then ([], [], 10) else (can (x / y), can (x % y), 0)
theorem can_one_limb {z : Int} (h0 : 0 ≤ z) (h : (can z).length = 1) : can z = [z] ∧ 0 < z ∧ z < 4294967296 := by
  have hv := can_val h0
  have hL := can_Lim z
  match hc : can z, h with
  | [x], _ =>
    rw [hc] at hv hL
    rw [val_one] at hv
    subst hv
    have := (Lim.cons.1 hL).1
    refine ⟨rfl, ?_, this.2⟩
    rcases Int.lt_or_le 0 x with c | c
    · exact c
    · have : x = 0 := by omega
      subst this
      rw [can_zero] at hc; cases hc
theorem DivMod_ev (a b : List Int) (ha : a.length ≤ 100000) (hb : b.length ≤ 100000) (la : Lim a) (lb : Lim b)
    (hlong : 2 ≤ (can (val b)).length → val b ≤ val a → (can (val a)).length ≤ 256 → Ev (fun k => nat_long.f k (can (val a)) (can (val b))) (can (val a / val b), can (val a % val b))) :
    Ev (fun k => nat_DivMod.f k a b) (divR (val a) (val b)) := by
  unfold nat_DivMod.f divR
  have hza := val_nonneg la
  have hzb := val_nonneg lb
  refine (over2_ev a b (by omega) (by omega) la lb).bind ?_
  by_cases ho : (big (val a) || big (val b)) = true
  · simp only [if_pos ho]; exact Ev.now _
  · rw [if_neg ho]
    refine Ev.congr (fun k => if_neg ho) ?_
    have hba : big (val a) = false := by revert ho; cases big (val a) <;> simp
    have hla := not_big_len hba
    refine (right_ev b (by omega)).bind ?_
    have htb := tr_length_le b
    have hta := tr_length_le a
    have ca := can_of la
    have cb := can_of lb
    by_cases h0 : val b = 0
    · rw [if_pos h0]
      have : (tr b).length = 0 := by rw [← cb, h0, can_zero]; rfl
      refine Ev.congr (fun k => if_pos (by omega)) ?_
      exact Ev.now _
    · rw [if_neg h0]
      have hp := can_pos (show 0 < val b by omega)
      refine Ev.congr (fun k => if_neg (by rw [← cb]; omega)) ?_
      refine (Cmp_ev a b (by omega) (by omega) la lb).bind ?_
      by_cases hc : val a < val b
      · refine Ev.congr (fun k => if_pos (cmpR_neg.2 hc)) ?_
        refine (Trim_ev a (by omega)).bind ?_
        rw [Int.ediv_eq_zero_of_lt hza hc, Int.emod_eq_of_lt hza hc, can_zero, ca]
        exact Ev.now _
      · refine Ev.congr (fun k => if_neg (mt cmpR_neg.1 hc)) ?_
        refine cut_ev _ b (by omega) ?_
        rw [← cb]
        by_cases h1 : (can (val b)).length = 1
        · obtain ⟨e1, e2, e3⟩ := can_one_limb hzb h1
          refine Ev.congr (fun k => if_pos (by omega)) ?_
          refine (Trim_ev a (by omega)).bind ?_
          rw [← ca]
          refine Ev.congr (fun k => if_pos (by omega)) ?_
          have er : rd (can (val b)) 0 = val b := by rw [e1]; rfl
          rw [er]
          obtain ⟨y, hy, hyl, ly, hyv⟩ := short_ev (can (val a)) (val b) e2 e3 (by omega) (can_Lim _)
          rw [can_val hza] at hy hyv
          refine hy.bind ?_
          refine (right_ev y (by omega)).bind ?_
          have hty := tr_length_le y
          refine Ev.congr (fun k => if_pos (by omega)) ?_
          refine Ev.congr (fun k => if_pos (by omega)) ?_
          have hm0 := Int.emod_nonneg (val a) h0
          have hm1 := Int.emod_lt_of_pos (val a) e2
          have hof := Of_ev (val a % val b) hm0 (by omega)
          rw [u64w hm0 (by omega)]
          refine hof.bind ?_
          rw [Int.toNat_natCast, tr_take, ← can_of ly, hyv]
          exact Ev.now _
        · refine Ev.congr (fun k => if_neg (by omega)) ?_
          refine (right_ev a (by omega)).bind ?_
          refine Ev.congr (fun k => if_pos (by omega)) ?_
          refine Ev.congr (fun k => if_pos (by omega)) ?_
          have := hlong (by omega) (by omega) hla
          rw [Int.toNat_natCast, tr_take, ← ca]
          exact this.bind (Ev.now _)
/-! ### for numbers that are told -/
theorem can_is {z : Int} {l : List Int} (hl : Lim l) (ht : tr l = l) (hv : val l = z) : can z = l := by rw [← hv, can_of hl, ht]
theorem big_is {z : Int} {n : Nat} (h0 : 0 ≤ z) (hn : n ≤ 256) (h : z < PW n) : big z = false := by
  apply big_small h0
  have := PW_le hn
  omega
def ddF : Nat → Nat → List UInt8
  | 0, _ => []
  | f + 1, u => if u < 10 then [UInt8.ofNat (48 + u)] else ddF f (u / 10) ++ [UInt8.ofNat (48 + u % 10)]
theorem ddF_eq : ∀ f u, u < 10 ^ f → 0 < f → ddF f u = Lib.decDigits u := by
  intro f
  induction f with
  | zero => intro u _ h; omega
  | succ f ih =>
    intro u hu _
    rw [ddF]
    by_cases h : u < 10
    · rw [if_pos h, dd_small h]
    · rw [if_neg h, dd_big h]
      rw [Nat.pow_succ] at hu
      have hf : 0 < f := by
        cases f with
        | zero => simp at hu; omega
        | succ f => omega
      rw [ih (u / 10) (by omega) hf]
theorem evTo {α : Type} {g : Nat → Option α} {r s : α} (h : Ev g r) (e : r = s) : Ev g s := e ▸ h
end Go.Proofs.YtfcenlhaepckoaaGreatDoor.P
