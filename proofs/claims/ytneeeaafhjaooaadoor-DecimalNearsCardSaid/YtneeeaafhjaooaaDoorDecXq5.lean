import Derived.Test.YtneeeaafhjaooaaDoorDecWq5
import Derived.Test.YtneeeaafhjaooaaDoorDecVq5
import Derived.Test.YtneeeaafhjaooaaDoorDecDq5
import Derived.Test.YtneeeaafhjaooaaDoorDecCq5
import Derived.Test.YtneeeaafhjaooaaDoorDecAq5
import Derived.Test.YtneeeaafhjaooaaDoorP0q5
import Derived.Test.YtneeeaafhjaooaaDoorProg
import Derived.Test.YtneeeaafhjaooaaDoorErefcutq5
import Derived.Test.YtneeeaafhjaooaaDoorDecEq5
import Derived.Test.YtneeeaafhjaooaaDoorLibsq5
import Derived.Lib.Atoi
set_option linter.unusedSimpArgs false
set_option linter.unusedVariables false
namespace Go.Proofs.YtneeeaafhjaooaaDoor.P
set_option linter.all false
open Go.RowKit Go.Proofs.YtneeeaafhjaooaaDoorW.PrintWords Go.Proofs.YtneeeaafhjaooaaDoorW.PrintLast Go.Proofs.YtneeeaafhjaooaaDoorW.PrintMore

theorem upV_scale (way : Int) (neg : Bool) (q r U S : Nat) (hS : 0 < S) : upV way neg q (r * S) (U * S) = upV way neg q r U := by
  have c1 : U * S < 2 * (r * S) ↔ U < 2 * r := by rw [← Nat.mul_assoc]; exact Nat.mul_lt_mul_right hS
  have c2 : 2 * (r * S) = U * S ↔ 2 * r = U := by rw [← Nat.mul_assoc]; exact Nat.mul_left_inj (by omega)
  have c3 : 0 < r * S ↔ 0 < r := ⟨fun h => Nat.pos_of_mul_pos_right h, fun h => Nat.mul_pos h hS⟩
  have c4 : U * S ≤ 2 * (r * S) ↔ U ≤ 2 * r := by rw [← Nat.mul_assoc]; exact Nat.mul_le_mul_right_iff hS
  unfold upV
  simp only [c1, c2, c3, c4]

/-- The unit of the last place, at the exponent -200000. -/
def unitV (n : Int) : Nat := 10 ^ (200000 - n).toNat
theorem unitV_pos (n : Int) : 0 < unitV n := Nat.pow_pos (by decide)

/-- What is cut: its worth. -/
theorem cut_val (neg : Bool) (l : List UInt8) (e n way : Int) (h : rightL l e = true) (h0 : l ≠ []) (hw0 : 0 ≤ way) (hw5 : way ≤ 5) (hn0 : -100000 ≤ n) (hn1 : n ≤ 100000) (hk : e + n < 0) :
    natL (keptL neg l (l.length + e + n) way) * 10 ^ (-n + 200000).toNat = rnd way neg (mag l e) (unitV n) := by
  obtain ⟨hd, hlen, he0, he1, _⟩ := right_facts h
  have hends := right_ends h h0
  have hpos := List.length_pos_iff.2 h0
  have hU : 10 ^ (-n + 200000).toNat = unitV n := by unfold unitV; congr 2; omega
  rw [hU]
  unfold rnd
  refine congrArg (· * unitV n) ?_
  by_cases hneg : (l.length : Int) + e + n < 0
  · obtain ⟨b1, b2⟩ := mag_bounds l e h h0
    have hmp := mag_pos l e h h0
    have hb : 10 * mag l e ≤ unitV n := by
      have h1 : 10 ^ ((l.length : Int) + e + 200000).toNat * 10 ≤ unitV n := by
        unfold unitV
        rw [← Nat.pow_succ]
        exact Nat.pow_le_pow_right (by decide) (by omega)
      omega
    have hq : mag l e / unitV n = 0 := Nat.div_eq_of_lt (by omega)
    have hr : mag l e % unitV n = mag l e := Nat.mod_eq_of_lt (by omega)
    rw [hq, hr]
    unfold keptL
    rw [if_pos hneg]
    have hup : upB way (-1) false neg = upV way neg 0 (mag l e) (unitV n) := by
      unfold upB upV
      have c1 : ¬ (unitV n < 2 * mag l e) := by omega
      have c2 : ¬ (2 * mag l e = unitV n) := by omega
      have c3 : ¬ (unitV n ≤ 2 * mag l e) := by omega
      simp only [c1, c2, c3, hmp, decide_true, decide_false, Bool.true_and, Bool.false_and, Bool.and_false, Bool.or_false, show ¬ ((0 : Int) < -1) by omega, show ¬ ((0 : Int) ≤ -1) by omega, show ¬ ((-1 : Int) = 0) by omega]
    rw [hup]
    by_cases hu : upV way neg 0 (mag l e) (unitV n) = true
    · rw [if_pos hu, if_pos hu]; rfl
    · rw [if_neg hu, if_neg hu]; rfl
  · unfold keptL
    rw [if_neg hneg]
    obtain ⟨k, hk2⟩ : ∃ k : Nat, (l.length : Int) + e + n = k := ⟨((l.length : Int) + e + n).toNat, by omega⟩
    rw [hk2, Int.toNat_natCast, kept_val neg l k way hd (fun _ => hends.2) (by omega)]
    have hS : 0 < 10 ^ (e + 200000).toNat := Nat.pow_pos (by decide)
    have hUS : unitV n = 10 ^ (l.length - k) * 10 ^ (e + 200000).toNat := by unfold unitV; rw [← Nat.pow_add]; congr 1; omega
    have hm : mag l e = natL l * 10 ^ (e + 200000).toNat := rfl
    rw [hm, hUS, Nat.mul_div_mul_right _ _ hS, Nat.mul_mod_mul_right, upV_scale _ _ _ _ _ _ hS]

theorem stay_val (neg : Bool) (l : List UInt8) (e n way : Int) (he : -200000 ≤ e) (hn1 : n ≤ 200000) (hs : l = [] ∨ 0 ≤ e + n) : rnd way neg (mag l e) (unitV n) = mag l e := by
  rcases hs with rfl | hs
  · rw [mag_nil]
    have := rnd_mul way neg 0 (unitV n) (unitV_pos n)
    simpa using this
  · have : mag l e = (natL l * 10 ^ (e + n).toNat) * unitV n := by
      unfold mag unitV
      rw [Nat.mul_assoc, ← Nat.pow_add]
      congr 2; omega
    rw [this, rnd_mul _ _ _ _ (unitV_pos n)]

theorem place_val (neg : Bool) (l : List UInt8) (e n way : Int) (xn : Bool) (xl : List UInt8) (xe : Int) (hp : placeL neg l e n way = (xn, xl, xe, 0)) :
    xn = neg ∧ rightL xl xe = true ∧ mag xl xe = rnd way neg (mag l e) (unitV n) ∧ (xl = [] ∨ -n ≤ xe) ∧ rightL l e = true ∧ 0 ≤ way ∧ way ≤ 5 ∧ -100000 ≤ n ∧ n ≤ 100000 := by
  unfold placeL at hp
  by_cases hc : rightL l e = true ∧ 0 ≤ way ∧ way ≤ 5 ∧ -100000 ≤ n ∧ n ≤ 100000
  · rw [if_pos hc] at hp
    obtain ⟨h, hw0, hw5, hn0, hn1⟩ := hc
    obtain ⟨hd, hlen, he0, he1, hz⟩ := right_facts h
    by_cases hs : l = [] ∨ (l.length : Int) ≤ l.length + e + n
    · rw [if_pos hs] at hp
      obtain ⟨rfl, rfl, rfl⟩ : neg = xn ∧ l = xl ∧ e = xe := by simp only [Prod.mk.injEq] at hp; exact ⟨hp.1, hp.2.1, hp.2.2.1⟩
      have hs2 : l = [] ∨ 0 ≤ e + n := hs.imp id (fun q => by omega)
      exact ⟨rfl, h, (stay_val neg l e n way (by omega) (by omega) hs2).symm, hs2.imp id (fun q => by omega), h, hw0, hw5, hn0, hn1⟩
    · rw [if_neg hs] at hp
      have h0 : l ≠ [] := fun q => hs (.inl q)
      have hk : e + n < 0 := by have := fun q => hs (.inr q); omega
      obtain ⟨q1, q2, q3, q4, _⟩ := make_val neg _ _ xn xl xe (by omega) hp
      have e1 : e + (l.length : Int) - (l.length + e + n) = -n := by omega
      rw [e1] at q3 q4
      exact ⟨q1, q2, by rw [q3]; exact cut_val neg l e n way h h0 hw0 hw5 hn0 hn1 hk, q4, h, hw0, hw5, hn0, hn1⟩
  · rw [if_neg hc] at hp; simp at hp

end Go.Proofs.YtneeeaafhjaooaaDoor.P
