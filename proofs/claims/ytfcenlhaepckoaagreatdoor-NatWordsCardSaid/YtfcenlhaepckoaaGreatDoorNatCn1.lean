import Derived.Test.YtfcenlhaepckoaaGreatDoorNatBn1
import Derived.Test.YtfcenlhaepckoaaGreatDoorP0n1
import Derived.Test.YtfcenlhaepckoaaGreatDoorProg
import Derived.Test.YtfcenlhaepckoaaGreatDoorShelfn1
import Derived.Test.YtfcenlhaepckoaaGreatDoorP1n1
import Derived.Test.YtfcenlhaepckoaaGreatDoorP7n1
import Derived.Test.YtfcenlhaepckoaaGreatDoorNatAn1
import Derived.Test.YtfcenlhaepckoaaGreatDoorLibsn1
import Derived.Lib.Strings
import Derived.Lib.Repeat
import Derived.Lib.SlTrimSet
import Derived.Lib.Bytealg
namespace Go.Proofs.YtfcenlhaepckoaaGreatDoor.P
set_option linter.all false
set_option linter.unusedSimpArgs false
open Go.RowKit Go.Proofs.YtfcenlhaepckoaaGreatDoorW.PrintWords Go.Proofs.YtfcenlhaepckoaaGreatDoorW.PrintLast Go.Proofs.YtfcenlhaepckoaaGreatDoorW.PrintMore

theorem wraps64 (n : Int) (h0 : 0 ≤ n) (h1 : n < 2 ^ 64) : IntKind.u64.wrap n = n := by rw [IntKind.wrap_u64]; omega
theorem u64w {n : Int} (h0 : 0 ≤ n) (h1 : n < 18446744073709551616) : IntKind.u64.wrap n = n := wraps64 n h0 (by omega)
theorem orHi {x y : Int} (hx0 : 0 ≤ x) (hx : x < 4294967296) (hy0 : 0 ≤ y) (hy : y < 4294967296) : bits .or .u64 (y * 4294967296) x = y * 4294967296 + x :=
  bits_join .u64 64 (by decide) wraps64 32 (y * 4294967296) x (by omega) (by omega) (by omega) hx0 (by omega) (by omega)
theorem or_comm64 {x y : Int} (hx0 : 0 ≤ x) (hx : x < 18446744073709551616) (hy0 : 0 ≤ y) (hy : y < 18446744073709551616) : bits .or .u64 x y = bits .or .u64 y x := by
  obtain ⟨a, rfl⟩ := Int.eq_ofNat_of_zero_le hx0
  obtain ⟨b, rfl⟩ := Int.eq_ofNat_of_zero_le hy0
  rw [(bits_nat .u64 64 (by decide) wraps64 a b (by omega) (by omega)).2, (bits_nat .u64 64 (by decide) wraps64 b a (by omega) (by omega)).2, Nat.or_comm]
theorem orLo {x y : Int} (hx0 : 0 ≤ x) (hx : x < 4294967296) (hy0 : 0 ≤ y) (hy : y < 4294967296) : bits .or .u64 x (y * 4294967296) = x + y * 4294967296 := by
  rw [or_comm64 hx0 (by omega) (by omega) (by omega), orHi hx0 hx hy0 hy]; omega

/-! ### Value -/
def valueR (z : Int) : Int × Bool := if (can z).length > 2 then (0, false) else (z, true)
theorem shl0 {x : Int} (h0 : 0 ≤ x) (h1 : x < 4294967296) : shl .u64 (IntKind.u64.wrap x) (wrap64 (32 * 0)) = x := by
  rw [u64w h0 (by omega), w64 (by omega) (by omega)]
  show IntKind.u64.wrap (x * 2 ^ min (Int.toNat 0) 64) = x
  rw [show min (Int.toNat 0) 64 = 0 from rfl, Int.pow_zero, Int.mul_one, u64w h0 (by omega)]
theorem shl32 {x : Int} (h0 : 0 ≤ x) (h1 : x < 4294967296) : shl .u64 (IntKind.u64.wrap x) (wrap64 (32 * 1)) = x * 4294967296 := by
  rw [u64w h0 (by omega), w64 (by omega) (by omega)]
  show IntKind.u64.wrap (x * 2 ^ min (Int.toNat 32) 64) = _
  rw [show min (Int.toNat 32) 64 = 32 from rfl, show (2 : Int) ^ 32 = 4294967296 by decide, u64w (by omega) (by omega)]
theorem Value_ev (a : List Int) (ha : a.length ≤ 1000000) (la : Lim a) : Ev (fun k => nat_Value.f k a) (valueR (val a)) := by
  unfold nat_Value.f valueR
  refine (right_ev a ha).bind ?_
  have h := tr_length_le a
  simp only [if_pos (show (0 : Int) ≤ ((tr a).length : Int) by omega), if_pos (show ((tr a).length : Int) ≤ (a.length : Int) by omega), Option.bind_some, Int.toNat_natCast, tr_take, can_of la]
  have hv := tr_val a
  have hL := tr_Lim la
  rw [← hv]
  generalize tr a = l at hL
  clear h hv
  by_cases h2 : l.length > 2
  · simp only [if_pos (show (l.length : Int) > 2 by omega), if_pos h2]; exact Ev.now _
  · simp only [if_neg (show ¬ ((l.length : Int) > 2) by omega), if_neg h2]
    match l, hL, h2 with
    | [], _, _ =>
      refine Ev.step (fun k => by rw [nat_Value.l0]) ?_
      simp only [List.length_nil, if_neg (show ¬ ((0 : Int) < ((0 : Nat) : Int)) by decide)]
      exact Ev.now _
    | [x], hL, _ =>
      have hx := (Lim.cons.1 hL).1
      refine Ev.step (fun k => by rw [nat_Value.l0]) ?_
      have e : rd [x] 0 = x := rfl
      have e2 : bits .or .u64 0 x = x := by have := orHi hx.1 hx.2 (Int.le_refl 0) (by decide); simpa using this
      simp only [List.length_singleton, if_pos (show ((0 : Int) < ((1 : Nat) : Int)) by decide), if_pos (Int.le_refl 0), e, shl0 hx.1 hx.2, if_pos (show (0 : Int) ≤ wrap64 (32 * 0) by unfold wrap64; omega), e2]
      refine Ev.step (fun k => by rw [nat_Value.l0]) ?_
      simp only [if_neg (show ¬ (wrap64 (0 + 1) < ((1 : Nat) : Int)) by unfold wrap64; omega), val_one]
      exact Ev.now _
    | [x, y], hL, _ =>
      have hx := (Lim.cons.1 hL).1
      have hy := (Lim.cons.1 (Lim.cons.1 hL).2).1
      refine Ev.step (fun k => by rw [nat_Value.l0]) ?_
      have e : rd [x, y] 0 = x := rfl
      have e' : rd [x, y] 1 = y := rfl
      have e2 : bits .or .u64 0 x = x := by have := orHi hx.1 hx.2 (Int.le_refl 0) (by decide); simpa using this
      have e1 : ([x, y] : List Int).length = 2 := rfl
      simp only [e1, if_pos (show ((0 : Int) < ((2 : Nat) : Int)) by decide), if_pos (Int.le_refl 0), e, shl0 hx.1 hx.2, if_pos (show (0 : Int) ≤ wrap64 (32 * 0) by unfold wrap64; omega), e2]
      refine Ev.step (fun k => by rw [nat_Value.l0]) ?_
      simp only [e1, show wrap64 (0 + 1) = 1 by unfold wrap64; omega, if_pos (show ((1 : Int) < ((2 : Nat) : Int)) by decide), if_pos (show (0 : Int) ≤ 1 by decide), e', shl32 hy.1 hy.2, if_pos (show (0 : Int) ≤ wrap64 (32 * 1) by unfold wrap64; omega), orLo hx.1 hx.2 hy.1 hy.2]
      refine Ev.step (fun k => by rw [nat_Value.l0]) ?_
      simp only [if_neg (show ¬ (wrap64 (1 + 1) < ((2 : Nat) : Int)) by unfold wrap64; omega)]
      have : val [x, y] = x + y * 4294967296 := by simp only [val]; omega
      rw [this]
      exact Ev.now _
    | _ :: _ :: _ :: _, _, h => simp at h
theorem refValue_ev (a : List Int) (ha : a.length ≤ 1000000) (la : Lim a) : Ev (fun k => tabardref1_Value.f k a) (valueR (val a)) := by
  unfold tabardref1_Value.f valueR
  refine (refTrim_ev a ha).bind ?_
  rw [can_of la]
  have hv := tr_val a
  have hL := tr_Lim la
  rw [← hv]
  generalize tr a = l at hL
  clear hv
  by_cases h2 : l.length > 2
  · simp only [if_pos (show (l.length : Int) > 2 by omega), if_pos h2]; exact Ev.now _
  · simp only [if_neg (show ¬ ((l.length : Int) > 2) by omega), if_neg h2]
    match l, hL, h2 with
    | [], _, _ =>
      refine Ev.step (fun k => by rw [tabardref1_Value.l0]) ?_
      simp only [List.length_nil, if_neg (show ¬ (wrap64 (((0 : Nat) : Int) - 1) ≥ 0) by unfold wrap64; omega)]
      exact Ev.now _
    | [x], hL, _ =>
      have hx := (Lim.cons.1 hL).1
      have e : rd [x] 0 = x := rfl
      refine Ev.step (fun k => by rw [tabardref1_Value.l0]) ?_
      simp only [List.length_singleton, show wrap64 (((1 : Nat) : Int) - 1) = 0 by unfold wrap64; omega, if_pos (show (0 : Int) ≥ 0 by decide), if_pos (Int.le_refl 0), if_pos (show (0 : Int) < ((1 : Nat) : Int) by decide), e, u64w hx.1 (show x < 18446744073709551616 by omega)]
      refine Ev.step (fun k => by rw [tabardref1_Value.l0]) ?_
      simp only [if_neg (show ¬ (wrap64 (0 - 1) ≥ 0) by unfold wrap64; omega)]
      rw [val_one, show IntKind.u64.wrap (0 * 4294967296) = 0 by rw [IntKind.wrap_u64]; omega, Int.zero_add, u64w hx.1 (by omega)]
      exact Ev.now _
    | [x, y], hL, _ =>
      have hx := (Lim.cons.1 hL).1
      have hy := (Lim.cons.1 (Lim.cons.1 hL).2).1
      have e : rd [x, y] 0 = x := rfl
      have e' : rd [x, y] 1 = y := rfl
      have e1 : ([x, y] : List Int).length = 2 := rfl
      refine Ev.step (fun k => by rw [tabardref1_Value.l0]) ?_
      simp only [e1, show wrap64 (((2 : Nat) : Int) - 1) = 1 by unfold wrap64; omega, if_pos (show (1 : Int) ≥ 0 by decide), if_pos (show (0 : Int) ≤ 1 by decide), if_pos (show (1 : Int) < ((2 : Nat) : Int) by decide), e', u64w hy.1 (show y < 18446744073709551616 by omega), show IntKind.u64.wrap (0 * 4294967296) = 0 by rw [IntKind.wrap_u64]; omega, Int.zero_add]
      refine Ev.step (fun k => by rw [tabardref1_Value.l0]) ?_
      simp only [e1, show wrap64 (1 - 1) = 0 by unfold wrap64; omega, if_pos (show (0 : Int) ≥ 0 by decide), if_pos (Int.le_refl 0), if_pos (show (0 : Int) < ((2 : Nat) : Int) by decide), e, u64w hx.1 (show x < 18446744073709551616 by omega)]
      refine Ev.step (fun k => by rw [tabardref1_Value.l0]) ?_
      simp only [if_neg (show ¬ (wrap64 (0 - 1) ≥ 0) by unfold wrap64; omega)]
      have : val [x, y] = y * 4294967296 + x := by simp only [val]; omega
      rw [this, u64w (n := y * 4294967296) (by omega) (by omega), u64w (by omega) (by omega)]
      exact Ev.now _
    | _ :: _ :: _ :: _, _, h => simp at h

/-! ### Len -/
def lenR (z : Int) : Int := if can z = [] then 0 else 32 * (((can z).length : Int) - 1) + Lib.bitLen (rd (can z) (((can z).length : Int) - 1)).toNat
theorem bitLenAux_le : ∀ (f j n : Nat), n < 2 ^ j → Lib.bitLenAux f n ≤ j := by
  intro f
  induction f with
  | zero => intro j n _; exact Nat.zero_le _
  | succ f ih =>
    intro j n h
    rw [Lib.bitLenAux]
    split
    · exact Nat.zero_le _
    · rename_i h0
      cases j with
      | zero => rw [Nat.pow_zero] at h; omega
      | succ j =>
        rw [Nat.pow_succ] at h
        have := ih j (n / 2) (by omega)
        omega
theorem bitLenAux_more : ∀ (f n : Nat), n < 2 ^ f → Lib.bitLenAux (f + 1) n = Lib.bitLenAux f n := by
  intro f
  induction f with
  | zero => intro n h; rw [Nat.pow_zero] at h; have : n = 0 := by omega
            subst this; rfl
  | succ f ih =>
    intro n h
    rw [Lib.bitLenAux]
    conv => rhs; rw [Lib.bitLenAux]
    rw [Nat.pow_succ] at h
    rw [ih (n / 2) (by omega)]
theorem bitLen_le (n : Nat) (h : n < 4294967296) : Lib.bitLen n ≤ 32 := bitLenAux_le 64 32 n (by simpa using h)
theorem Len_ev (a : List Int) (ha : a.length ≤ 1000000) (la : Lim a) : Ev (fun k => nat_Len.f k a) (lenR (val a)) := by
  unfold nat_Len.f lenR
  refine (right_ev a ha).bind ?_
  have h := tr_length_le a
  simp only [if_pos (show (0 : Int) ≤ ((tr a).length : Int) by omega), if_pos (show ((tr a).length : Int) ≤ (a.length : Int) by omega), Option.bind_some, Int.toNat_natCast, tr_take, can_of la]
  have hL := tr_Lim la
  generalize tr a = l at hL h
  by_cases h0 : l = []
  · subst h0; simp only [List.length_nil, if_true]; exact Ev.now _
  · have hp := List.length_pos_iff.2 h0
    have hw : wrap64 ((l.length : Int) - 1) = (l.length : Int) - 1 := w64 (by omega) (by omega)
    have hr := lim_rd hL ((l.length : Int) - 1)
    have hb := bitLen_le (rd l ((l.length : Int) - 1)).toNat (by omega)
    simp only [if_neg h0, if_neg (show ¬ ((l.length : Int) = 0) by omega), hw, if_pos (show (0 : Int) ≤ (l.length : Int) - 1 by omega), if_pos (show (l.length : Int) - 1 < (l.length : Int) by omega)]
    unfold bits_Len32.f
    rw [if_pos ⟨hr.1, by omega⟩]
    simp only [Option.bind_some]
    rw [w64 (x := 32 * ((l.length : Int) - 1)) (by omega) (by omega), w64 (by omega) (by omega)]
    exact Ev.now _
theorem bitLen_half (n : Nat) (h : n ≠ 0) (hn : n < 4294967296) : Lib.bitLen n = Lib.bitLen (n / 2) + 1 := by
  have h63 : n / 2 < 2 ^ 63 := by
    have : (4294967296 : Nat) ≤ 2 ^ 63 := by decide
    omega
  have hm := bitLenAux_more 63 (n / 2) h63
  have e : Lib.bitLen n = 1 + Lib.bitLenAux 63 (n / 2) := by
    show (if n = 0 then 0 else 1 + Lib.bitLenAux 63 (n / 2)) = _
    rw [if_neg h]
  rw [e, ← hm, Nat.add_comm]
  rfl
theorem refLen_loop (n : Nat) (hn : n < 4294967296) : ∀ c : Int, 0 ≤ c → c + Lib.bitLen n ≤ 1000000000 → Ev (fun k => tabardref1_Len.l0 k c (n : Int)) (c + Lib.bitLen n) := by
  induction n using Nat.strongRecOn with
  | ind n ih =>
    intro c hc hb
    refine Ev.step (fun k => by rw [tabardref1_Len.l0]) ?_
    by_cases h0 : n = 0
    · subst h0
      simp only [if_neg (show ¬ (((0 : Nat) : Int) > 0) by decide)]
      have : c + ((Lib.bitLen 0 : Nat) : Int) = c := by rw [show Lib.bitLen 0 = 0 from rfl]; omega
      rw [this]; exact Ev.now _
    · have hh := bitLen_half n h0 hn
      have e : Int.tdiv (n : Int) 2 % 4294967296 = ((n / 2 : Nat) : Int) := by
        rw [Int.tdiv_eq_ediv_of_nonneg (by omega)]; omega
      simp only [if_pos (show ((n : Int) > 0) by omega), e, w64 (show (-9223372036854775808 : Int) ≤ c + 1 by omega) (show c + 1 ≤ 9223372036854775807 by omega)]
      have := ih (n / 2) (by omega) (by omega) (c + 1) (by omega) (by omega)
      rw [hh, show c + ((Lib.bitLen (n / 2) + 1 : Nat) : Int) = c + 1 + (Lib.bitLen (n / 2) : Int) by omega]
      exact this
theorem refLen_ev (a : List Int) (ha : a.length ≤ 1000000) (la : Lim a) : Ev (fun k => tabardref1_Len.f k a) (lenR (val a)) := by
  unfold tabardref1_Len.f lenR
  refine (refTrim_ev a ha).bind ?_
  have h := tr_length_le a
  rw [can_of la]
  have hL := tr_Lim la
  generalize tr a = l at hL h
  by_cases h0 : l = []
  · subst h0; simp only [List.length_nil, if_true]; exact Ev.now _
  · have hp := List.length_pos_iff.2 h0
    have hw : wrap64 ((l.length : Int) - 1) = (l.length : Int) - 1 := w64 (by omega) (by omega)
    have hr := lim_rd hL ((l.length : Int) - 1)
    have hb := bitLen_le (rd l ((l.length : Int) - 1)).toNat (by omega)
    simp only [if_neg h0, if_neg (show ¬ ((l.length : Int) = 0) by omega), hw, if_pos (show (0 : Int) ≤ (l.length : Int) - 1 by omega), if_pos (show (l.length : Int) - 1 < (l.length : Int) by omega)]
    have := refLen_loop (rd l ((l.length : Int) - 1)).toNat (by omega) (32 * ((l.length : Int) - 1)) (by omega) (by omega)
    rw [show (((rd l ((l.length : Int) - 1)).toNat : Nat) : Int) = rd l ((l.length : Int) - 1) by omega] at this
    rw [w64 (x := 32 * ((l.length : Int) - 1)) (by omega) (by omega)]
    exact this

/-! ### Cmp -/
def cmpR (x y : Int) : Int := if x < y then -1 else if x > y then 1 else 0
theorem val_take_lt {l : List Int} (h : Lim l) (i : Nat) : 0 ≤ val (l.take i) ∧ val (l.take i) < PW i := by
  refine ⟨val_nonneg (h.take i), ?_⟩
  have := val_lt (h.take i)
  have := PW_le (show (l.take i).length ≤ i by rw [List.length_take]; omega)
  omega
theorem val_take_succ (l : List Int) (i : Nat) (h : i < l.length) : val (l.take (i + 1)) = val (l.take i) + PW i * rd l (i : Int) := by
  rw [take_rd l i h, val_append, val_one, List.length_take, Nat.min_eq_left (by omega)]
theorem cmp_step {l m : List Int} (hl : Lim l) (hm : Lim m) (i : Nat) (h1 : i < l.length) (h2 : i < m.length) :
    cmpR (val (l.take (i + 1))) (val (m.take (i + 1))) = if rd l (i : Int) < rd m (i : Int) then -1 else if rd l (i : Int) > rd m (i : Int) then 1 else cmpR (val (l.take i)) (val (m.take i)) := by
  rw [val_take_succ l i h1, val_take_succ m i h2]
  have a := val_take_lt hl i
  have b := val_take_lt hm i
  have p := PW_pos i
  generalize val (l.take i) = u at a ⊢
  generalize val (m.take i) = v at b ⊢
  generalize rd l (i : Int) = x
  generalize rd m (i : Int) = y
  generalize PW i = q at a b p ⊢
  unfold cmpR
  by_cases c1 : x < y
  · rw [if_pos c1, if_pos]
    have := Int.mul_le_mul_of_nonneg_left (show x + 1 ≤ y by omega) (show 0 ≤ q by omega)
    rw [Int.mul_add] at this; omega
  · rw [if_neg c1]
    by_cases c2 : x > y
    · have := Int.mul_le_mul_of_nonneg_left (show y + 1 ≤ x by omega) (show 0 ≤ q by omega)
      rw [Int.mul_add] at this
      rw [if_pos c2, if_neg (by omega), if_pos (by omega)]
    · have : x = y := by omega
      subst this
      rw [if_neg c2]
      by_cases c3 : u < v
      · rw [if_pos c3, if_pos (by omega)]
      · rw [if_neg c3, if_neg (by omega)]
        by_cases c4 : u > v
        · rw [if_pos c4, if_pos (by omega)]
        · rw [if_neg c4, if_neg (by omega)]
theorem Cmp_loop (l m : List Int) (hl : Lim l) (hm : Lim m) (hn : l.length = m.length) (hs : l.length ≤ 1000000) : ∀ d i, i + d = l.length →
    Ev (fun k => nat_Cmp.l0 k l m (l.length : Int) (i : Int)) (cmpR (val (l.take d)) (val (m.take d))) := by
  intro d
  induction d with
  | zero =>
    intro i hi
    refine Ev.step (fun k => by rw [nat_Cmp.l0]) ?_
    simp only [if_neg (show ¬ ((i : Int) < (l.length : Int)) by omega), List.take_zero]
    exact Ev.now _
  | succ d ih =>
    intro i hi
    refine Ev.step (fun k => by rw [nat_Cmp.l0]) ?_
    have e : wrap64 (wrap64 ((l.length : Int) - 1) - (i : Int)) = (d : Int) := by rw [w64 (x := (l.length : Int) - 1) (by omega) (by omega), w64 (by omega) (by omega)]; omega
    simp only [e, if_pos (show ((i : Int) < (l.length : Int)) by omega), if_pos (show (0 : Int) ≤ (d : Int) by omega), if_pos (show (d : Int) < (l.length : Int) by omega), if_pos (show (d : Int) < (m.length : Int) by omega)]
    rw [cmp_step hl hm d (by omega) (by omega)]
    by_cases c1 : rd l (d : Int) < rd m (d : Int)
    · simp only [if_pos c1]; exact Ev.now _
    · simp only [if_neg c1]
      by_cases c2 : rd l (d : Int) > rd m (d : Int)
      · simp only [if_pos c2]; exact Ev.now _
      · simp only [if_neg c2, w64s (show i ≤ 1000000000 by omega)]
        exact ih (i + 1) (by omega)
theorem cmp_shorter {x y : Int} (hx : 0 ≤ x) (hy : 0 ≤ y) (h : (can x).length < (can y).length) : x < y := by
  have a := (can_length hx (can x).length).1 (Nat.le_refl _)
  have b : ¬ (y < PW (can x).length) := fun q => by have := (can_length hy _).2 q; omega
  omega
theorem Cmp_ev (a b : List Int) (ha : a.length ≤ 1000000) (hb : b.length ≤ 1000000) (la : Lim a) (lb : Lim b) : Ev (fun k => nat_Cmp.f k a b) (cmpR (val a) (val b)) := by
  unfold nat_Cmp.f
  refine (right_ev a ha).bind ?_
  have h1 := tr_length_le a
  have h2 := tr_length_le b
  simp only [if_pos (show (0 : Int) ≤ ((tr a).length : Int) by omega), if_pos (show ((tr a).length : Int) ≤ (a.length : Int) by omega), Option.bind_some, Int.toNat_natCast, tr_take]
  refine (right_ev b hb).bind ?_
  simp only [if_pos (show (0 : Int) ≤ ((tr b).length : Int) by omega), if_pos (show ((tr b).length : Int) ≤ (b.length : Int) by omega), Option.bind_some, Int.toNat_natCast, tr_take]
  by_cases c : (tr a).length = (tr b).length
  · simp only [if_pos (show ((tr a).length : Int) = ((tr b).length : Int) by omega)]
    have := Cmp_loop (tr a) (tr b) (tr_Lim la) (tr_Lim lb) c (by omega) (tr a).length 0 (by omega)
    rw [List.take_length, c, List.take_length, tr_val, tr_val, ← c] at this
    exact this
  · simp only [if_neg (show ¬ (((tr a).length : Int) = ((tr b).length : Int)) by omega)]
    have va := val_nonneg la
    have vb := val_nonneg lb
    rw [← can_of la, ← can_of lb] at c ⊢
    by_cases c2 : (can (val a)).length < (can (val b)).length
    · simp only [if_pos (show ((can (val a)).length : Int) < ((can (val b)).length : Int) by omega)]
      have := cmp_shorter va vb c2
      unfold cmpR; rw [if_pos this]; exact Ev.now _
    · simp only [if_neg (show ¬ (((can (val a)).length : Int) < ((can (val b)).length : Int)) by omega)]
      have := cmp_shorter vb va (by omega)
      unfold cmpR; rw [if_neg (by omega), if_pos (by omega)]; exact Ev.now _
theorem refCmp_loop (l m : List Int) (hl : Lim l) (hm : Lim m) (hn : l.length = m.length) (hs : l.length ≤ 1000000) : ∀ d, d ≤ l.length →
    Ev (fun k => tabardref1_Cmp.l0 k l m ((d : Int) - 1)) (cmpR (val (l.take d)) (val (m.take d))) := by
  intro d
  induction d with
  | zero =>
    intro hd
    refine Ev.step (fun k => by rw [tabardref1_Cmp.l0]) ?_
    simp only [if_neg (show ¬ (((0 : Nat) : Int) - 1 ≥ 0) by decide), List.take_zero]
    exact Ev.now _
  | succ d ih =>
    intro hd
    refine Ev.step (fun k => by rw [tabardref1_Cmp.l0]) ?_
    have e : ((d + 1 : Nat) : Int) - 1 = (d : Int) := by omega
    simp only [e, if_pos (show (d : Int) ≥ 0 by omega), if_pos (show (0 : Int) ≤ (d : Int) by omega), if_pos (show (d : Int) < (l.length : Int) by omega), if_pos (show (d : Int) < (m.length : Int) by omega)]
    rw [cmp_step hl hm d (by omega) (by omega)]
    by_cases c1 : rd l (d : Int) < rd m (d : Int)
    · simp only [if_pos c1]; exact Ev.now _
    · simp only [if_neg c1]
      by_cases c2 : rd l (d : Int) > rd m (d : Int)
      · simp only [if_pos c2]; exact Ev.now _
      · simp only [if_neg c2, w64 (show (-9223372036854775808 : Int) ≤ (d : Int) - 1 by omega) (show (d : Int) - 1 ≤ 9223372036854775807 by omega)]
        exact ih (by omega)
theorem refCmp_ev (a b : List Int) (ha : a.length ≤ 1000000) (hb : b.length ≤ 1000000) (la : Lim a) (lb : Lim b) : Ev (fun k => tabardref1_Cmp.f k a b) (cmpR (val a) (val b)) := by
  unfold tabardref1_Cmp.f
  refine (refTrim_ev a ha).bind ?_
  refine (refTrim_ev b hb).bind ?_
  have h1 := tr_length_le a
  have h2 := tr_length_le b
  by_cases c : (tr a).length = (tr b).length
  · simp only [if_pos (show ((tr a).length : Int) = ((tr b).length : Int) by omega)]
    have := refCmp_loop (tr a) (tr b) (tr_Lim la) (tr_Lim lb) c (by omega) (tr a).length (Nat.le_refl _)
    rw [List.take_length, c, List.take_length, tr_val, tr_val, ← c] at this
    rw [w64 (by omega) (by omega)]
    exact this
  · simp only [if_neg (show ¬ (((tr a).length : Int) = ((tr b).length : Int)) by omega)]
    have va := val_nonneg la
    have vb := val_nonneg lb
    rw [← can_of la, ← can_of lb] at c ⊢
    by_cases c2 : (can (val a)).length < (can (val b)).length
    · simp only [if_pos (show ((can (val a)).length : Int) < ((can (val b)).length : Int) by omega)]
      have := cmp_shorter va vb c2
      unfold cmpR; rw [if_pos this]; exact Ev.now _
    · simp only [if_neg (show ¬ (((can (val a)).length : Int) < ((can (val b)).length : Int)) by omega)]
      have := cmp_shorter vb va (by omega)
      unfold cmpR; rw [if_neg (by omega), if_pos (by omega)]; exact Ev.now _
end Go.Proofs.YtfcenlhaepckoaaGreatDoor.P
