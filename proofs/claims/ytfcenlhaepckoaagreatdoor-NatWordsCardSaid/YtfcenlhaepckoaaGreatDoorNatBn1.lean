import Derived.Test.YtfcenlhaepckoaaGreatDoorP0n1
import Derived.Test.YtfcenlhaepckoaaGreatDoorProg
import Derived.Test.YtfcenlhaepckoaaGreatDoorP1n1
import Derived.Test.YtfcenlhaepckoaaGreatDoorP2n1
import Derived.Test.YtfcenlhaepckoaaGreatDoorP5n1
import Derived.Test.YtfcenlhaepckoaaGreatDoorP7n1
import Derived.Test.YtfcenlhaepckoaaGreatDoorNatAn1
import Derived.Test.YtfcenlhaepckoaaGreatDoorLibsn1
import Derived.Lib.Strings
import Derived.Lib.Repeat
import Derived.Lib.SlTrimSet
import Derived.Lib.Bytealg
namespace Go.Proofs.YtfcenlhaepckoaaGreatDoor.P
set_option linter.all false
open Go.RowKit Go.Proofs.YtfcenlhaepckoaaGreatDoorW.PrintWords Go.Proofs.YtfcenlhaepckoaaGreatDoorW.PrintLast Go.Proofs.YtfcenlhaepckoaaGreatDoorW.PrintMore

theorem take_rd (l : List Int) (i : Nat) (h : i < l.length) : l.take (i + 1) = l.take i ++ [rd l (i : Int)] := by
  rw [List.take_succ_eq_append_getElem h]
  congr 2
  unfold rd
  rw [Int.toNat_natCast, List.getD, List.getElem?_eq_getElem h]; rfl
theorem w64p {i : Nat} (h : i ≤ 1000000) : wrap64 (((i + 1 : Nat) : Int) - 1) = (i : Int) := by rw [w64 (by omega) (by omega)]; omega
theorem w64s {i : Nat} (h : i ≤ 1000000000) : wrap64 ((i : Int) + 1) = ((i + 1 : Nat) : Int) := by rw [w64 (by omega) (by omega)]; rfl

theorem right_loop (l : List Int) (hl : l.length ≤ 1000000) : ∀ i, i ≤ l.length → Ev (fun k => nat_right.l0 k l (i : Int)) ((tr (l.take i)).length : Int) := by
  intro i
  induction i with
  | zero =>
    intro _
    refine Ev.step (fun k => by rw [nat_right.l0]) ?_
    simp only [if_neg (show ¬ (((0 : Nat) : Int) > 0) by decide)]
    exact Ev.now _
  | succ i ih =>
    intro hi
    refine Ev.step (fun k => by rw [nat_right.l0]) ?_
    simp only [w64p (show i ≤ 1000000 by omega), if_pos (show ((i + 1 : Nat) : Int) > 0 by omega), if_pos (show 0 ≤ (i : Int) by omega), if_pos (show (i : Int) < (l.length : Int) by omega)]
    rw [take_rd l i (by omega)]
    by_cases h0 : rd l (i : Int) = 0
    · simp only [h0, if_true]
      rw [tr_zero]
      exact ih (by omega)
    · simp only [if_neg h0]
      rw [tr_last _ h0, List.length_append, List.length_take, Nat.min_eq_left (by omega)]
      exact Ev.now _
theorem right_ev (l : List Int) (hl : l.length ≤ 1000000) : Ev (fun k => nat_right.f k l) ((tr l).length : Int) := by
  have := right_loop l hl l.length (Nat.le_refl _)
  rw [List.take_length] at this
  exact this
theorem Trim_ev (l : List Int) (hl : l.length ≤ 1000000) : Ev (fun k => nat_Trim.f k l) (tr l) := by
  unfold nat_Trim.f
  refine (right_ev l hl).bind ?_
  have h := tr_length_le l
  simp only [if_pos (show (0 : Int) ≤ ((tr l).length : Int) by omega), Int.toNat_natCast, if_pos (show (tr l).length ≤ 70368744177664 by omega)]
  have e : overlay_ (List.replicate (tr l).length 0) l = tr l := by
    unfold overlay_
    rw [List.length_replicate, Nat.min_eq_right h, tr_take, List.drop_of_length_le (by simp), List.append_nil]
  rw [e]
  exact Ev.now _
theorem refTrim_loop (l : List Int) (hl : l.length ≤ 1000000) : ∀ i, i ≤ l.length → Ev (fun k => tabardref1_Trim.l0 k l (i : Int)) (tr (l.take i)) := by
  intro i
  induction i with
  | zero =>
    intro _
    refine Ev.step (fun k => by rw [tabardref1_Trim.l0]) ?_
    simp only [if_neg (show ¬ (((0 : Nat) : Int) > 0) by decide), Option.bind_some, if_pos (show (0 : Int) ≤ ((0 : Nat) : Int) by decide), if_pos (show ((0 : Nat) : Int) ≤ (l.length : Int) by omega), Int.toNat_natCast, List.take_zero, List.length_nil]
    exact Ev.now _
  | succ i ih =>
    intro hi
    refine Ev.step (fun k => by rw [tabardref1_Trim.l0]) ?_
    simp only [w64p (show i ≤ 1000000 by omega), if_pos (show ((i + 1 : Nat) : Int) > 0 by omega), if_pos (show 0 ≤ (i : Int) by omega), if_pos (show (i : Int) < (l.length : Int) by omega), Option.bind_some, if_pos (show 0 ≤ ((i + 1 : Nat) : Int) by omega), if_pos (show ((i + 1 : Nat) : Int) ≤ (l.length : Int) by omega), Int.toNat_natCast, List.length_nil, List.length_take, List.nil_append]
    by_cases h0 : rd l (i : Int) = 0
    · simp only [h0, if_true]
      rw [take_rd l i (by omega), h0, tr_zero]
      exact ih (by omega)
    · simp only [if_neg h0, if_pos (show 0 + min (i + 1) l.length < 35184372088832 by omega)]
      rw [take_rd l i (by omega), tr_last _ h0]
      exact Ev.now _
theorem refTrim_ev (l : List Int) (hl : l.length ≤ 1000000) : Ev (fun k => tabardref1_Trim.f k l) (tr l) := by
  have := refTrim_loop l hl l.length (Nat.le_refl _)
  rw [List.take_length] at this
  exact this

/-- Is a number too big? -/
def big (z : Int) : Bool := decide ((can z).length > 256)
theorem big_iff {z : Int} (h : 0 ≤ z) : big z = true ↔ PW 256 ≤ z := by
  unfold big
  have := can_length h 256
  rw [decide_eq_true_iff]; omega
/-- An answer, if it is not too big. -/
def fitR (z : Int) : List Int × Int := if big z = true then ([], 2) else (can z, 0)

theorem over_loop (ls : List (List Int)) (hl : ∀ l ∈ ls, l.length ≤ 1000000) (hn : ls.length ≤ 1000) : ∀ d i, i + d = ls.length →
    Ev (fun k => nat_over.l0 k ls (ls.length : Int) (i : Int)) ((ls.drop i).any fun l => decide ((tr l).length > 256)) := by
  intro d
  induction d with
  | zero =>
    intro i hi
    refine Ev.step (fun k => by rw [nat_over.l0]) ?_
    simp only [if_neg (show ¬ ((i : Int) < (ls.length : Int)) by omega)]
    rw [List.drop_of_length_le (by omega)]
    exact Ev.now _
  | succ d ih =>
    intro i hi
    have hlt : i < ls.length := by omega
    refine Ev.step (fun k => by rw [nat_over.l0]) ?_
    have e : rd_L1 ls (i : Int) = ls[i] := by
      unfold rd_L1
      rw [Int.toNat_natCast, List.getD, List.getElem?_eq_getElem hlt]; rfl
    simp only [e, if_pos (show ((i : Int) < (ls.length : Int)) by omega), if_pos (show 0 ≤ (i : Int) by omega)]
    refine (right_ev _ (hl _ (List.getElem_mem hlt))).bind ?_
    rw [List.drop_eq_getElem_cons hlt, List.any_cons]
    by_cases h : (tr ls[i]).length > 256
    · simp only [if_pos (show (((tr ls[i]).length : Int) > 256) by omega), h, decide_true, Bool.true_or]
      exact Ev.now _
    · simp only [if_neg (show ¬ (((tr ls[i]).length : Int) > 256) by omega), h, decide_false, Bool.false_or, w64s (show i ≤ 1000000000 by omega)]
      exact ih (i + 1) (by omega)
theorem over2_ev (a b : List Int) (ha : a.length ≤ 1000000) (hb : b.length ≤ 1000000) (la : Lim a) (lb : Lim b) : Ev (fun k => nat_over.f k [a, b]) (big (val a) || big (val b)) := by
  have := over_loop [a, b] (by simp [ha, hb]) (by simp) 2 0 rfl
  simp only [List.drop_zero, List.any_cons, List.any_nil, Bool.or_false] at this
  unfold big
  rw [can_of la, can_of lb]
  exact this
theorem over1_ev (a : List Int) (ha : a.length ≤ 1000000) (la : Lim a) : Ev (fun k => nat_over.f k [a]) (big (val a)) := by
  have := over_loop [a] (by simp [ha]) (by simp) 1 0 rfl
  simp only [List.drop_zero, List.any_cons, List.any_nil, Bool.or_false] at this
  unfold big
  rw [can_of la]
  exact this
theorem fits_ev (a : List Int) (ha : a.length ≤ 1000000) (la : Lim a) : Ev (fun k => nat_fits.f k a) (fitR (val a)) := by
  unfold nat_fits.f fitR big
  refine (right_ev a ha).bind ?_
  have h := tr_length_le a
  simp only [if_pos (show (0 : Int) ≤ ((tr a).length : Int) by omega), if_pos (show ((tr a).length : Int) ≤ (a.length : Int) by omega), Option.bind_some, Int.toNat_natCast, tr_take, can_of la]
  by_cases h2 : (tr a).length > 256
  · simp only [if_pos (show (((tr a).length : Int) > 256) by omega), h2, decide_true, if_true]; exact Ev.now _
  · simp only [if_neg (show ¬ (((tr a).length : Int) > 256) by omega), h2, decide_false, Bool.false_eq_true, if_false]; exact Ev.now _
theorem Of_ev (v : Int) (h0 : 0 ≤ v) (h1 : v < 18446744073709551616) : Ev (fun k => nat_Of.f k v) (can v) := by
  unfold nat_Of.f
  have hv : val [v % 4294967296, v / 4294967296 % 4294967296] = v := by simp only [val]; omega
  have hL : Lim [v % 4294967296, v / 4294967296 % 4294967296] := Lim.cons.2 ⟨by omega, Lim.one (by omega) (by omega)⟩
  have := Trim_ev [v % 4294967296, v / 4294967296 % 4294967296] (by simp)
  rw [← can_of hL, hv] at this
  exact this.bind (Ev.now _)
theorem refOf_ev (v : Int) (h0 : 0 ≤ v) (h1 : v < 18446744073709551616) : Ev (fun k => tabardref1_Of.f k v) (can v) := by
  unfold tabardref1_Of.f
  have ht : Int.tmod v 4294967296 = v % 4294967296 := Int.tmod_eq_emod_of_nonneg h0
  rw [ht]
  have hv : val [v % 4294967296 % 4294967296, v / 4294967296 % 4294967296] = v := by simp only [val]; omega
  have hL : Lim [v % 4294967296 % 4294967296, v / 4294967296 % 4294967296] := Lim.cons.2 ⟨by omega, Lim.one (by omega) (by omega)⟩
  have := refTrim_ev [v % 4294967296 % 4294967296, v / 4294967296 % 4294967296] (by simp)
  rw [← can_of hL, hv] at this
  exact this.bind (Ev.now _)

theorem same_loop (l m : List Int) (hl : l.length ≤ 1000000) (he : l.length = m.length) : ∀ d i, i + d = l.length →
    Ev (fun k => tabardlaw1_same.l0 k l m (i : Int)) (l.drop i == m.drop i) := by
  intro d
  induction d with
  | zero =>
    intro i hi
    refine Ev.step (fun k => by rw [tabardlaw1_same.l0]) ?_
    simp only [if_neg (show ¬ ((i : Int) < (l.length : Int)) by omega)]
    rw [List.drop_of_length_le (by omega), List.drop_of_length_le (by omega)]
    exact Ev.now _
  | succ d ih =>
    intro i hi
    have h1 : i < l.length := by omega
    have h2 : i < m.length := by omega
    refine Ev.step (fun k => by rw [tabardlaw1_same.l0]) ?_
    have e1 : rd l (i : Int) = l[i] := by unfold rd; rw [Int.toNat_natCast, List.getD, List.getElem?_eq_getElem h1]; rfl
    have e2 : rd m (i : Int) = m[i] := by unfold rd; rw [Int.toNat_natCast, List.getD, List.getElem?_eq_getElem h2]; rfl
    simp only [e1, e2, if_pos (show ((i : Int) < (l.length : Int)) by omega), if_pos (show 0 ≤ (i : Int) by omega), if_pos (show ((i : Int) < (m.length : Int)) by omega), w64s (show i ≤ 1000000000 by omega)]
    rw [List.drop_eq_getElem_cons h1, List.drop_eq_getElem_cons h2, List.cons_beq_cons]
    by_cases h : l[i] = m[i]
    · simp only [h, if_true, beq_self_eq_true, Bool.true_and]
      exact ih (i + 1) (by omega)
    · simp only [if_neg h, beq_eq_false_iff_ne.2 h, Bool.false_and]
      exact Ev.now _
theorem same_ev (l m : List Int) (hl : l.length ≤ 1000000) : Ev (fun k => tabardlaw1_same.f k l m) (l == m) := by
  unfold tabardlaw1_same.f
  by_cases h : l.length = m.length
  · simp only [if_pos (show (l.length : Int) = (m.length : Int) by omega)]
    have := same_loop l m hl h l.length 0 (by omega)
    simpa using this
  · simp only [if_neg (show ¬ ((l.length : Int) = (m.length : Int)) by omega)]
    have : (l == m) = false := beq_eq_false_iff_ne.2 (fun e => h (congrArg List.length e))
    rw [this]
    exact Ev.now _
theorem same_self (l : List Int) (hl : l.length ≤ 1000000) : Ev (fun k => tabardlaw1_same.f k l l) true := by
  have := same_ev l l hl
  rwa [beq_self_eq_true] at this
end Go.Proofs.YtfcenlhaepckoaaGreatDoor.P
