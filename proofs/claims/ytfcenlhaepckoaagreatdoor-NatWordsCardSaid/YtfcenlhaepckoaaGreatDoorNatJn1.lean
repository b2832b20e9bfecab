import Derived.Test.YtfcenlhaepckoaaGreatDoorProg
import Derived.Test.YtfcenlhaepckoaaGreatDoorP4n1
import Derived.Test.YtfcenlhaepckoaaGreatDoorP0n1
import Derived.Test.YtfcenlhaepckoaaGreatDoorP1n1
import Derived.Test.YtfcenlhaepckoaaGreatDoorQ1n1
import Derived.Test.YtfcenlhaepckoaaGreatDoorNatIn1
import Derived.Test.YtfcenlhaepckoaaGreatDoorNatFn1
import Derived.Test.YtfcenlhaepckoaaGreatDoorNatEn1
import Derived.Test.YtfcenlhaepckoaaGreatDoorNatDn1
import Derived.Test.YtfcenlhaepckoaaGreatDoorNatCn1
import Derived.Test.YtfcenlhaepckoaaGreatDoorNatBn1
import Derived.Test.YtfcenlhaepckoaaGreatDoorNatAn1
import Derived.Test.YtfcenlhaepckoaaGreatDoorLibsn1
import Derived.Lib.Strings
import Derived.Lib.Repeat
import Derived.Lib.SlTrimSet
import Derived.Lib.Bytealg
import Derived.Laws.MathBits
namespace Go.Proofs.YtfcenlhaepckoaaGreatDoor.P
set_option linter.all false
set_option linter.unusedSimpArgs false
open Go.RowKit Go.Proofs.YtfcenlhaepckoaaGreatDoorW.PrintWords Go.Proofs.YtfcenlhaepckoaaGreatDoorW.PrintLast Go.Proofs.YtfcenlhaepckoaaGreatDoorW.PrintMore
open Go.Proofs.YtfcenlhaepckoaaGreatDoor.Q

theorem pow2_pos (n : Nat) : (0 : Int) < 2 ^ n := Int.pow_pos (by decide)
theorem pow2_le {m n : Nat} (h : m ≤ n) : (2 : Int) ^ m ≤ 2 ^ n := by
  obtain ⟨d, rfl⟩ := Nat.le.dest h
  rw [Int.pow_add]
  have := Int.mul_le_mul_of_nonneg_left (show (1 : Int) ≤ 2 ^ d by have := pow2_pos d; omega) (show (0 : Int) ≤ 2 ^ m by have := pow2_pos m; omega)
  omega
theorem pow2_31 {s : Nat} (h : s ≤ 31) : (2 : Int) ^ s ≤ 2147483648 := by
  have := pow2_le h
  rw [show (2 : Int) ^ 31 = 2147483648 by decide] at this
  exact this
theorem PW_two (n : Nat) : PW n = 2 ^ (32 * n) := by
  rw [Int.pow_mul, show (2 : Int) ^ 32 = 4294967296 by decide]; rfl
theorem shl_bound {x : Int} {s : Nat} (h0 : 0 ≤ x) (h1 : x < 4294967296) : 0 ≤ x * 2 ^ s ∧ x * 2 ^ s + 2 ^ s ≤ 4294967296 * 2 ^ s := by
  have hp := pow2_pos s
  refine ⟨Int.mul_nonneg h0 (by omega), ?_⟩
  have := Int.mul_le_mul_of_nonneg_right (show x + 1 ≤ 4294967296 by omega) (show 0 ≤ (2 : Int) ^ s by omega)
  rw [Int.add_mul] at this
  omega
theorem shl_limb {x : Int} {s : Nat} (h0 : 0 ≤ x) (h1 : x < 4294967296) (hs : s ≤ 31) : shl .u64 (IntKind.u64.wrap x) (s : Int) = x * 2 ^ s := by
  have hp := pow2_31 hs
  have hb := shl_bound (s := s) h0 h1
  have hq := pow2_pos s
  rw [u64w h0 (by omega)]
  show IntKind.u64.wrap (x * 2 ^ min (Int.toNat (s : Int)) 64) = _
  rw [Int.toNat_natCast, Nat.min_eq_left (by omega), u64w hb.1 (by omega)]
theorem or_shift {c x : Int} {s : Nat} (hc0 : 0 ≤ c) (hc : c < 2 ^ s) (h0 : 0 ≤ x) (h1 : x < 4294967296) (hs : s ≤ 31) : bits .or .u64 c (x * 2 ^ s) = c + x * 2 ^ s := by
  have hp := pow2_31 hs
  have hb := shl_bound (s := s) h0 h1
  rw [or_comm64 hc0 (by omega) hb.1 (by omega), bits_join .u64 64 (by decide) wraps64 s (x * 2 ^ s) c hb.1 (Int.mul_emod_left _ _) (by omega) hc0 hc (by omega)]
  omega
theorem shift_step {D q c u x p : Int} (h : D + q * c = p * u) : D + q * ((c + x * p) % 4294967296) + 4294967296 * q * ((c + x * p) / 4294967296) = p * (u + q * x) := by
  have e : (c + x * p) % 4294967296 + 4294967296 * ((c + x * p) / 4294967296) = c + x * p := by omega
  generalize (c + x * p) % 4294967296 = r at *
  generalize (c + x * p) / 4294967296 = t at *
  have : q * (r + 4294967296 * t) = q * (c + x * p) := by rw [e]
  grind
theorem set_take_succ (x : List Int) (i : Nat) (v : Int) (h : i < x.length) : (x.set i v).take (i + 1) = x.take i ++ [v] := by
  rw [take_rd _ i (by rw [List.length_set]; exact h), List.take_set_of_le (Nat.le_refl _), rd_set_eq _ _ _ h]
theorem shift_loop (a : List Int) (la : Lim a) (s : Nat) (hs : s ≤ 31) (L : Nat) (hL : a.length ≤ L) (hL2 : L ≤ 1000000) : ∀ d i x c, i + d = L → x.length = L → Lim (x.take i) → 0 ≤ c → c < 2 ^ s →
    val (x.take i) + PW i * c = 2 ^ s * val (a.take i) →
    ∃ y e, Ev (fun k => nat_shift.l0 k x a (s : Int) c (L : Int) (i : Int)) y ∧ y.length = L ∧ Lim y ∧ 0 ≤ e ∧ e < 2 ^ s ∧ val y + PW L * e = 2 ^ s * val a := by
  intro d
  induction d with
  | zero =>
    intro i x c hi hx lx hc0 hc hv
    refine ⟨x, c, ?_, hx, ?_, hc0, hc, ?_⟩
    · refine Ev.step (fun k => by rw [nat_shift.l0]) ?_
      simp only [if_neg (show ¬ ((i : Int) < (L : Int)) by omega)]
      exact Ev.now _
    · rw [List.take_of_length_le (by omega)] at lx; exact lx
    · rw [List.take_of_length_le (by omega), List.take_of_length_le (by omega), show i = L by omega] at hv
      exact hv
  | succ d ih =>
    intro i x c hi hx lx hc0 hc hv
    have hx1 := lim_rd la (i : Int)
    have hp := pow2_31 hs
    have hpp := pow2_pos s
    have hb := shl_bound (s := s) hx1.1 hx1.2
    have hc' : (c + rd a (i : Int) * 2 ^ s) / 4294967296 < 2 ^ s := by
      apply Int.ediv_lt_of_lt_mul (by decide)
      rw [Int.mul_comm (2 ^ s)]; omega
    have hT := set_take_succ x i ((c + rd a (i : Int) * 2 ^ s) % 4294967296) (by omega)
    obtain ⟨y, e, hy, h1, h2, h3, h4, h5⟩ := ih (i + 1) (x.set i ((c + rd a (i : Int) * 2 ^ s) % 4294967296)) ((c + rd a (i : Int) * 2 ^ s) / 4294967296) (by omega) (by rw [List.length_set]; exact hx)
      (by rw [hT]; exact Lim.append.2 ⟨lx, Lim.one (by omega) (by omega)⟩) (by omega) hc' (by
        rw [hT, val_append, val_one, List.length_take, Nat.min_eq_left (by omega), val_take_succ', PW_succ]
        exact shift_step hv)
    refine ⟨y, e, ?_, h1, h2, h3, h4, h5⟩
    refine Ev.step (fun k => by rw [nat_shift.l0]) ?_
    simp only [if_pos (show ((i : Int) < (L : Int)) by omega), if_pos (show (0 : Int) ≤ (i : Int) by omega), if_pos (show (0 : Int) ≤ (s : Int) by omega), if_pos (show (i : Int) < (x.length : Int) by omega), Int.toNat_natCast, w64s (show i ≤ 1000000000 by omega)]
    by_cases hia : (i : Int) < (a.length : Int)
    · simp only [if_pos hia, shl_limb hx1.1 hx1.2 hs, or_shift hc0 hc hx1.1 hx1.2 hs]
      exact hy
    · simp only [if_neg hia]
      rw [rd_end a i (by omega), Int.zero_mul, Int.add_zero] at hy
      exact hy
theorem shift_ev (x a : List Int) (la : Lim a) (s : Nat) (hs : s ≤ 31) (hL : a.length ≤ x.length) (hL2 : x.length ≤ 1000000) :
    ∃ y e, Ev (fun k => nat_shift.f k x a (s : Int)) y ∧ y.length = x.length ∧ Lim y ∧ 0 ≤ e ∧ e < 2 ^ s ∧ val y + PW x.length * e = 2 ^ s * val a :=
  shift_loop a la s hs x.length hL hL2 x.length 0 x 0 (by omega) rfl (by rw [List.take_zero]; exact Lim.nil) (Int.le_refl 0) (pow2_pos s) (by simp [val])
/-- Where the answer fits. -/
theorem shift_fits (x a : List Int) (la : Lim a) (s : Nat) (hs : s ≤ 31) (hL : a.length ≤ x.length) (hL2 : x.length ≤ 1000000) (hf : 2 ^ s * val a < PW x.length) :
    ∃ y, Ev (fun k => nat_shift.f k x a (s : Int)) y ∧ y.length = x.length ∧ Lim y ∧ val y = 2 ^ s * val a := by
  obtain ⟨y, e, h1, h2, h3, h4, h5, h6⟩ := shift_ev x a la s hs hL hL2
  have hn := val_nonneg h3
  have hp := PW_pos x.length
  have he : e = 0 := by
    rcases Int.lt_or_le 0 e with c | c
    · have := Int.mul_le_mul_of_nonneg_left (show 1 ≤ e by omega) (show 0 ≤ PW x.length by omega)
      omega
    · omega
  subst he
  exact ⟨y, h1, h2, h3, by rw [← h6]; omega⟩
theorem Shl_tail (p : List Int) (lp : Lim p) (hp : p.length ≤ 1000) (n : Int) (hn0 : 0 ≤ n) (hn : n ≤ 8192) :
    Ev (fun k => if 0 ≤ (wrap64 ((wrap64 ((wrap64 (Int.tdiv n 32)) + (p.length : Int))) + 1)) then (if (wrap64 ((wrap64 ((wrap64 (Int.tdiv n 32)) + (p.length : Int))) + 1) : Int).toNat ≤ 70368744177664 then ((some (List.replicate (wrap64 ((wrap64 ((wrap64 (Int.tdiv n 32)) + (p.length : Int))) + 1) : Int).toNat 0 : List Int)).bind fun y113 => (if 0 ≤ (wrap64 (Int.tdiv n 32)) then (if (wrap64 (Int.tdiv n 32)) ≤ (y113.length : Int) then (if (wrap64 (Int.tdiv n 32)) < (y113.length : Int) then ((nat_shift.f k (y113.drop ((wrap64 (Int.tdiv n 32)) : Int).toNat) p (Int.tmod n 32)).bind fun t120 => ((some (y113.take (((wrap64 (Int.tdiv n 32)) : Int).toNat) ++ t120 ++ y113.drop y113.length : List Int)).bind fun y121 => ((nat_right.f k y121).bind fun t122 => (if 0 ≤ t122 then (if t122 ≤ (y113.length : Int) then (some ((y121.take (t122 : Int).toNat), (0 : Int))) else (none)) else (none))))) else (none)) else (none)) else (none))) else (none)) else (none))
      (can (val p * PW (n.toNat / 32) * 2 ^ (n.toNat % 32)), (0 : Int)) := by
  have e1 : wrap64 (Int.tdiv n 32) = ((n.toNat / 32 : Nat) : Int) := by rw [Int.tdiv_eq_ediv_of_nonneg hn0, w64 (by omega) (by omega)]; omega
  have e2 : Int.tmod n 32 = ((n.toNat % 32 : Nat) : Int) := by rw [Int.tmod_eq_emod_of_nonneg hn0]; omega
  have hs : n.toNat % 32 ≤ 31 := by omega
  have hq : n.toNat / 32 ≤ 256 := by omega
  rw [e1, e2]
  generalize n.toNat % 32 = s at hs
  generalize n.toNat / 32 = q at hq
  clear e1 e2
  rw [w64add (show q + p.length ≤ 1000000000 by omega), w64s (show q + p.length ≤ 1000000000 by omega), Int.toNat_natCast]
  generalize hL : q + p.length + 1 = L
  have hd : (List.replicate L (0 : Int)).drop q = List.replicate (p.length + 1) 0 := by rw [List.drop_replicate, show L - q = p.length + 1 by omega]
  have ht : (List.replicate L (0 : Int)).take q = List.replicate q 0 := by rw [List.take_replicate, Nat.min_eq_left (by omega)]
  have hz : (List.replicate L (0 : Int)).drop L = [] := List.drop_of_length_le (by simp)
  simp only [if_pos (show (0 : Int) ≤ (L : Int) by omega), if_pos (show L ≤ 70368744177664 by omega), Option.bind_some, if_pos (show (0 : Int) ≤ (q : Int) by omega), List.length_replicate, if_pos (show (q : Int) ≤ (L : Int) by omega), if_pos (show (q : Int) < (L : Int) by omega), Int.toNat_natCast, hd, ht, hz, List.append_nil]
  have hv := val_lt lp
  have hv0 := val_nonneg lp
  have hpw := PW_pos p.length
  have hp31 := pow2_31 hs
  have hp0 := pow2_pos s
  have hfit : 2 ^ s * val p < PW (List.replicate (p.length + 1) (0 : Int)).length := by
    rw [List.length_replicate, PW_succ]
    have h1 := Int.mul_le_mul_of_nonneg_right hp31 hv0
    omega
  obtain ⟨y, hy, hyl, ly, hyv⟩ := shift_fits (List.replicate (p.length + 1) 0) p lp s hs (by simp) (by simp; omega) hfit
  rw [List.length_replicate] at hyl
  refine hy.bind ?_
  have hlen : (List.replicate q (0 : Int) ++ y).length = L := by simp; omega
  have hL2 : Lim (List.replicate q (0 : Int) ++ y) := Lim.append.2 ⟨Lim.zeros _, ly⟩
  refine (right_ev _ (by omega)).bind ?_
  have h1 := tr_length_le (List.replicate q (0 : Int) ++ y)
  simp only [if_pos (show (0 : Int) ≤ ((tr (List.replicate q (0 : Int) ++ y)).length : Int) by omega), if_pos (show ((tr (List.replicate q (0 : Int) ++ y)).length : Int) ≤ (L : Int) by omega), Int.toNat_natCast, tr_take]
  rw [← can_of hL2, val_append, val_zeros, List.length_replicate, hyv, Int.zero_add, show PW q * (2 ^ s * val p) = val p * PW q * 2 ^ s by grind]
  exact Ev.now _
theorem Shl_ev (a : List Int) (n : Int) (la : Lim a) (ha : a.length ≤ 100000) (hn : n ≤ 9223372036854775807) : Ev (fun k => nat_Shl.f k a n) (shlR (val a) n) := by
  unfold nat_Shl.f shlR
  have hz := val_nonneg la
  by_cases c1 : n < 0
  · simp only [if_pos c1]; exact Ev.now _
  · simp only [if_neg c1]
    refine (over1_ev a (by omega) la).bind ?_
    cases hb : big (val a) with
    | true => simp only [if_true]; exact Ev.now _
    | false =>
      simp only [Bool.false_eq_true, if_false]
      refine (right_ev a (by omega)).bind ?_
      rw [can_of la]
      have hl : (tr a).length ≤ 256 := by have := not_big_len hb; rw [can_of la] at this; exact this
      by_cases c2 : tr a = []
      · simp only [c2, List.length_nil, if_true]; exact Ev.now _
      · have hp := List.length_pos_iff.2 c2
        simp only [if_neg c2, if_neg (show ¬ (((tr a).length : Int) = 0) by omega)]
        have bad : Ev (fun k => nat_Shl.j0 k a n true) (([] : List Int), (2 : Int)) := by
          refine Ev.step (fun k => by rw [nat_Shl.j0]) ?_
          simp only [if_true]; exact Ev.now _
        by_cases c3 : n > 8192
        · simp only [if_pos c3, c3, true_or, if_true]; exact bad
        · simp only [if_neg c3, c3, false_or]
          refine (Len_ev a (by omega) la).bind ?_
          have hlb := lenR_bound hz hb
          rw [w64 (x := lenR (val a) + n) (by omega) (by omega)]
          by_cases c4 : lenR (val a) + n > 8192
          · simp only [c4, decide_true, if_true]; exact bad
          · simp only [decide_eq_false c4, if_neg c4]
            refine Ev.step (fun k => by rw [nat_Shl.j0]) ?_
            simp only [Bool.false_eq_true, if_false]
            refine cut_ev _ a (by omega) ?_
            have := Shl_tail (tr a) (tr_Lim la) (by omega) n (by omega) (by omega)
            rw [tr_val] at this
            exact this
end Go.Proofs.YtfcenlhaepckoaaGreatDoor.P
