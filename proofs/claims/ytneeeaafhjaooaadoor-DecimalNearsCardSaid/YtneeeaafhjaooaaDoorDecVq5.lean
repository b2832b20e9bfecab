import Derived.Test.YtneeeaafhjaooaaDoorDecIq5
import Derived.Test.YtneeeaafhjaooaaDoorDecDq5
import Derived.Test.YtneeeaafhjaooaaDoorDecAq5
import Derived.Test.YtneeeaafhjaooaaDoorP0q5
import Derived.Test.YtneeeaafhjaooaaDoorProg
import Derived.Test.YtneeeaafhjaooaaDoorDecPq5
import Derived.Test.YtneeeaafhjaooaaDoorDecEq5
import Derived.Test.YtneeeaafhjaooaaDoorLibsq5
import Derived.Lib.Atoi
set_option linter.unusedSimpArgs false
set_option linter.unusedVariables false
namespace Go.Proofs.YtneeeaafhjaooaaDoor.P
set_option linter.all false
open Go.RowKit Go.Proofs.YtneeeaafhjaooaaDoorW.PrintWords Go.Proofs.YtneeeaafhjaooaaDoorW.PrintLast Go.Proofs.YtneeeaafhjaooaaDoorW.PrintMore

theorem natFrom_eq (l : List UInt8) : ∀ a, natFrom a l = a * 10 ^ l.length + natL l := by
  induction l with
  | nil => intro a; simp [natFrom, natL]
  | cons b l ih =>
    intro a
    have e : natL (b :: l) = natFrom (0 * 10 + (b.toNat - 48)) l := by unfold natL; rw [natFrom_cons]
    rw [natFrom_cons, ih, e, ih (0 * 10 + (b.toNat - 48)), List.length_cons, Nat.pow_succ]
    generalize 10 ^ l.length = P
    generalize b.toNat - 48 = d
    grind
theorem natL_append (a b : List UInt8) : natL (a ++ b) = natL a * 10 ^ b.length + natL b := by
  have : natL (a ++ b) = natFrom (natL a) b := by unfold natL natFrom; rw [List.foldl_append]
  rw [this, natFrom_eq]
theorem natL_cons (b : UInt8) (l : List UInt8) : natL (b :: l) = (b.toNat - 48) * 10 ^ l.length + natL l := by
  have : natL (b :: l) = natFrom (0 * 10 + (b.toNat - 48)) l := by unfold natL; rw [natFrom_cons]
  rw [this, natFrom_eq]; grind
theorem natL_nil : natL [] = 0 := rfl
theorem natL_lt (l : List UInt8) (h : l.all isDig = true) : natL l < 10 ^ l.length := by
  have := natFrom_lt l h 0
  simpa [natL] using this
theorem natL_zeros (n : Nat) : natL (List.replicate n 48) = 0 := by
  induction n with
  | zero => rfl
  | succ n ih => rw [List.replicate_succ, natL_cons, ih]; simp
theorem natL_ge (l : List UInt8) (hd : l.all isDig = true) (h0 : l ≠ []) (h1 : l.getD 0 0 ≠ 48) : 10 ^ (l.length - 1) ≤ natL l := by
  cases l with
  | nil => exact absurd rfl h0
  | cons b l =>
    rw [List.all_cons, Bool.and_eq_true] at hd
    have hb := (isDig_iff b).1 hd.1
    have hb1 : 1 ≤ b.toNat - 48 := by
      have : b.toNat ≠ 48 := fun q => h1 (by show b = 48; exact UInt8.toNat_inj.1 q)
      omega
    rw [natL_cons, List.length_cons, Nat.add_sub_cancel]
    have := Nat.mul_le_mul_right (10 ^ l.length) hb1
    omega

/-- A row of digits at M places. -/
def scal (l : List UInt8) (M : Nat) : Nat := natL l * 10 ^ (M - l.length)
theorem scal_lt (l : List UInt8) (M : Nat) (hd : l.all isDig = true) (h : l.length ≤ M) : scal l M < 10 ^ M := by
  have h1 := natL_lt l hd
  unfold scal
  have h2 : 10 ^ M = 10 ^ l.length * 10 ^ (M - l.length) := by rw [← Nat.pow_add]; congr 1; omega
  rw [h2]
  exact Nat.mul_lt_mul_of_pos_right h1 (Nat.pow_pos (by decide))
theorem scal_step (l : List UInt8) (M : Nat) (h : l.length ≤ M + 1) : scal l (M + 1) = ((l.getD 0 48).toNat - 48) * 10 ^ M + scal l.tail M := by
  unfold scal
  cases l with
  | nil => simp [natL_nil]
  | cons b l =>
    rw [List.length_cons] at h
    have e : 10 ^ M = 10 ^ l.length * 10 ^ (M - l.length) := by rw [← Nat.pow_add]; congr 1; omega
    have hg : (b :: l).getD 0 48 = b := rfl
    rw [natL_cons, List.length_cons, List.tail_cons, show M + 1 - (l.length + 1) = M - l.length by omega, hg, e]
    generalize 10 ^ l.length = P
    generalize 10 ^ (M - l.length) = Q
    generalize natL l = N
    generalize b.toNat - 48 = d
    grind

theorem cmpI_lt {x y : Int} (h : x < y) : Lib.compareInt x y = -1 := by unfold Lib.compareInt; rw [if_pos h]
theorem cmpI_gt {x y : Int} (h : x > y) : Lib.compareInt x y = 1 := by unfold Lib.compareInt; rw [if_neg (by omega), if_pos h]
theorem cmpI_eq (x : Int) : Lib.compareInt x x = 0 := by unfold Lib.compareInt; rw [if_neg (by omega), if_neg (by omega)]
theorem cmpI_le {x y : Int} : Lib.compareInt x y ≤ 0 ↔ x ≤ y := by
  unfold Lib.compareInt
  by_cases h : x < y
  · rw [if_pos h]; omega
  · rw [if_neg h]
    by_cases h2 : x > y
    · rw [if_pos h2]; omega
    · rw [if_neg h2]; omega
theorem cmpI_zero {x y : Int} : Lib.compareInt x y = 0 ↔ x = y := by
  unfold Lib.compareInt
  by_cases h : x < y
  · rw [if_pos h]; omega
  · rw [if_neg h]
    by_cases h2 : x > y
    · rw [if_pos h2]; omega
    · rw [if_neg h2]; omega
theorem cmpI_shift (c x y : Int) : Lib.compareInt (c + x) (c + y) = Lib.compareInt x y := by
  unfold Lib.compareInt
  by_cases h1 : x < y
  · rw [if_pos (by omega), if_pos h1]
  · by_cases h2 : x > y
    · rw [if_neg (by omega), if_pos (by omega), if_neg h1, if_pos h2]
    · rw [if_neg (by omega), if_neg (by omega), if_neg h1, if_neg h2]

theorem dig_head (l : List UInt8) (hd : l.all isDig = true) : 48 ≤ (l.getD 0 48).toNat := by
  cases l with
  | nil => exact Nat.le_refl _
  | cons b l => rw [List.all_cons, Bool.and_eq_true] at hd; exact ((isDig_iff b).1 hd.1).1
theorem dig_tail (l : List UInt8) (hd : l.all isDig = true) : l.tail.all isDig = true := by
  cases l with
  | nil => rfl
  | cons b l => rw [List.all_cons, Bool.and_eq_true] at hd; exact hd.2

theorem pad_num (M : Nat) : ∀ l m : List UInt8, l.all isDig = true → m.all isDig = true → l.length ≤ M → m.length ≤ M →
    padL l m = Lib.compareInt (scal l M : Nat) (scal m M : Nat) := by
  induction M with
  | zero =>
    intro l m _ _ hl hm
    obtain rfl : l = [] := List.length_eq_zero_iff.1 (by omega)
    obtain rfl : m = [] := List.length_eq_zero_iff.1 (by omega)
    rw [padL_nn]; rfl
  | succ M ih =>
    intro l m hdl hdm hl hm
    by_cases hn : l = [] ∧ m = []
    · obtain ⟨rfl, rfl⟩ := hn
      rw [padL_nn, cmpI_eq]
    · have hne : l ≠ [] ∨ m ≠ [] := by
        by_cases q : l = []
        · exact .inr fun z => hn ⟨q, z⟩
        · exact .inl q
      have tl : l.tail.length ≤ M := by have := List.length_tail (l := l); omega
      have tm : m.tail.length ≤ M := by have := List.length_tail (l := m); omega
      have ht := ih l.tail m.tail (dig_tail l hdl) (dig_tail m hdm) tl tm
      have b1 := scal_lt l.tail M (dig_tail l hdl) tl
      have b2 := scal_lt m.tail M (dig_tail m hdm) tm
      have d1 := dig_head l hdl
      have d2 := dig_head m hdm
      rw [padL_step l m hne, ht, scal_step l M hl, scal_step m M hm]
      generalize scal l.tail M = X at b1 ⊢
      generalize scal m.tail M = Y at b2 ⊢
      generalize (l.getD 0 48).toNat = a at d1 ⊢
      generalize (m.getD 0 48).toNat = b at d2 ⊢
      generalize 10 ^ M = P at b1 b2 ⊢
      by_cases h1 : a < b
      · rw [if_pos h1, cmpI_lt]
        have : (a - 48 + 1) * P ≤ (b - 48) * P := Nat.mul_le_mul_right _ (by omega)
        rw [Nat.add_mul, Nat.one_mul] at this
        omega
      · rw [if_neg h1]
        by_cases h2 : a > b
        · rw [if_pos h2, cmpI_gt]
          have : (b - 48 + 1) * P ≤ (a - 48) * P := Nat.mul_le_mul_right _ (by omega)
          rw [Nat.add_mul, Nat.one_mul] at this
          omega
        · rw [if_neg h2]
          obtain rfl : a = b := by omega
          rw [Int.natCast_add, Int.natCast_add, cmpI_shift]

/-- A decimal's worth without its sign, at the exponent -200000; and with it. -/
def mag (l : List UInt8) (e : Int) : Nat := natL l * 10 ^ (e + 200000).toNat
def val (neg : Bool) (l : List UInt8) (e : Int) : Int := if neg = true then -(mag l e : Int) else (mag l e : Int)
theorem mag_nil (e : Int) : mag [] e = 0 := by unfold mag; rw [natL_nil, Nat.zero_mul]
theorem mag_scal (l : List UInt8) (e : Int) (he : -200000 ≤ e) (M : Nat) (hM : (M : Int) = l.length + e + 200000) : mag l e = scal l M := by
  unfold mag scal; congr 2; omega
theorem mag_bounds (l : List UInt8) (e : Int) (h : rightL l e = true) (h0 : l ≠ []) : 10 ^ (l.length + e + 200000 - 1).toNat ≤ mag l e ∧ mag l e < 10 ^ (l.length + e + 200000).toNat := by
  obtain ⟨hd, hlen, he0, he1, _⟩ := right_facts h
  have hpos := List.length_pos_iff.2 h0
  have g1 := natL_ge l hd h0 (right_ends h h0).1
  have g2 := natL_lt l hd
  unfold mag
  have e1 : (l.length + e + 200000 - 1).toNat = (l.length - 1) + (e + 200000).toNat := by omega
  have e2 : (l.length + e + 200000).toNat = l.length + (e + 200000).toNat := by omega
  rw [e1, e2, Nat.pow_add, Nat.pow_add]
  exact ⟨Nat.mul_le_mul_right _ g1, Nat.mul_lt_mul_of_pos_right g2 (Nat.pow_pos (by decide))⟩
theorem mag_pos (l : List UInt8) (e : Int) (h : rightL l e = true) (h0 : l ≠ []) : 0 < mag l e :=
  Nat.lt_of_lt_of_le (Nat.pow_pos (by decide)) (mag_bounds l e h h0).1

theorem size_mag (l1 : List UInt8) (e1 : Int) (l2 : List UInt8) (e2 : Int) (h1 : rightL l1 e1 = true) (h2 : rightL l2 e2 = true) :
    sizeL l1 e1 l2 e2 = Lib.compareInt (mag l1 e1 : Nat) (mag l2 e2 : Nat) := by
  obtain ⟨d1, q1, x1, y1, _⟩ := right_facts h1
  obtain ⟨d2, q2, x2, y2, _⟩ := right_facts h2
  unfold sizeL
  by_cases a1 : l1 = []
  · rw [if_pos (.inl a1)]
    by_cases a2 : l2 = []
    · rw [a1, a2, mag_nil, mag_nil]; rfl
    · have p2 := List.length_pos_iff.2 a2
      have m2 := mag_pos l2 e2 h2 a2
      rw [a1, mag_nil, List.length_nil, cmpI_lt (by omega), cmpI_lt (by omega)]
  · have p1 := List.length_pos_iff.2 a1
    have m1 := mag_pos l1 e1 h1 a1
    by_cases a2 : l2 = []
    · rw [if_pos (.inr a2), a2, mag_nil, List.length_nil, cmpI_gt (by omega), cmpI_gt (by omega)]
    · have p2 := List.length_pos_iff.2 a2
      rw [if_neg (fun q => q.elim a1 a2)]
      obtain ⟨b1, c1⟩ := mag_bounds l1 e1 h1 a1
      obtain ⟨b2, c2⟩ := mag_bounds l2 e2 h2 a2
      by_cases hp : (l1.length : Int) + e1 = l2.length + e2
      · rw [hp, cmpI_eq, if_pos rfl]
        have hM : (((l2.length : Int) + e2 + 200000).toNat : Int) = l2.length + e2 + 200000 := by omega
        rw [mag_scal l1 e1 (by omega) _ (hM.trans (by omega)), mag_scal l2 e2 (by omega) _ hM,
          ← pad_num _ l1 l2 d1 d2 (by omega) (by omega), padL_bytes l1 l2 d1 d2 (fun _ => (right_ends h1 a1).2) (fun _ => (right_ends h2 a2).2)]
      · by_cases hlt : (l1.length : Int) + e1 < l2.length + e2
        · rw [cmpI_lt hlt, if_neg (by omega)]
          have : 10 ^ ((l1.length : Int) + e1 + 200000).toNat ≤ 10 ^ ((l2.length : Int) + e2 + 200000 - 1).toNat := Nat.pow_le_pow_right (by decide) (by omega)
          rw [cmpI_lt]
          omega
        · have hgt : (l1.length : Int) + e1 > l2.length + e2 := by omega
          rw [cmpI_gt hgt, if_neg (by omega)]
          have : 10 ^ ((l2.length : Int) + e2 + 200000).toNat ≤ 10 ^ ((l1.length : Int) + e1 + 200000 - 1).toNat := Nat.pow_le_pow_right (by decide) (by omega)
          rw [cmpI_gt]
          omega

theorem sgn_cases (n : Bool) (l : List UInt8) (e : Int) (h : rightL l e = true) :
    (sgnL n l = 0 ∧ val n l e = 0 ∧ mag l e = 0) ∨ (sgnL n l = -1 ∧ val n l e = -(mag l e : Int) ∧ 0 < mag l e) ∨ (sgnL n l = 1 ∧ val n l e = (mag l e : Int) ∧ 0 < mag l e) := by
  by_cases h0 : l = []
  · refine .inl ⟨if_pos h0, ?_, by rw [h0, mag_nil]⟩
    unfold val; rw [h0, mag_nil]; split <;> rfl
  · have hp := mag_pos l e h h0
    cases n with
    | true => exact .inr (.inl ⟨by unfold sgnL; rw [if_neg h0]; rfl, rfl, hp⟩)
    | false => exact .inr (.inr ⟨by unfold sgnL; rw [if_neg h0]; rfl, rfl, hp⟩)

/-- Which of two right decimals is greater: their worths tell. -/
theorem cmp_val (n1 : Bool) (l1 : List UInt8) (e1 : Int) (n2 : Bool) (l2 : List UInt8) (e2 : Int) (h1 : rightL l1 e1 = true) (h2 : rightL l2 e2 = true) :
    cmpL n1 l1 e1 n2 l2 e2 = Lib.compareInt (val n1 l1 e1) (val n2 l2 e2) := by
  unfold cmpL
  rw [if_pos ⟨h1, h2⟩, size_mag l1 e1 l2 e2 h1 h2]
  rcases sgn_cases n1 l1 e1 h1 with ⟨s1, q1, m1⟩ | ⟨s1, q1, m1⟩ | ⟨s1, q1, m1⟩ <;> rcases sgn_cases n2 l2 e2 h2 with ⟨s2, q2, m2⟩ | ⟨s2, q2, m2⟩ | ⟨s2, q2, m2⟩ <;> rw [s1, s2, q1, q2]
  · rw [if_neg (fun q => q.2 rfl)]
  · rw [if_neg (fun q => q.2 rfl), cmpI_gt (by omega), cmpI_gt (by omega)]
  · rw [if_neg (fun q => q.2 rfl), cmpI_lt (by omega), cmpI_lt (by omega)]
  · rw [if_neg (fun q => by omega), cmpI_lt (by omega), cmpI_lt (by omega)]
  · rw [if_pos ⟨rfl, by decide⟩]
    generalize mag l1 e1 = x
    generalize mag l2 e2 = y
    unfold Lib.compareInt
    by_cases h1 : (x : Int) < y
    · rw [if_pos h1, if_neg (by omega), if_pos (by omega)]; rfl
    · by_cases h2 : (x : Int) > y
      · rw [if_neg h1, if_pos h2, if_pos (by omega)]; rfl
      · rw [if_neg h1, if_neg h2, if_neg (by omega), if_neg (by omega)]; rfl
  · rw [if_neg (fun q => by omega), cmpI_lt (by omega), cmpI_lt (by omega)]
  · rw [if_neg (fun q => by omega), cmpI_gt (by omega), cmpI_gt (by omega)]
  · rw [if_neg (fun q => by omega), cmpI_gt (by omega), cmpI_gt (by omega)]
  · rw [if_pos ⟨rfl, by decide⟩, Int.one_mul]
end Go.Proofs.YtneeeaafhjaooaaDoor.P
