import Derived.Test.YtfcenlhaepckoaaGreatDoorNatJn1
import Derived.Test.YtfcenlhaepckoaaGreatDoorProg
import Derived.Test.YtfcenlhaepckoaaGreatDoorP0n1
import Derived.Test.YtfcenlhaepckoaaGreatDoorP1n1
import Derived.Test.YtfcenlhaepckoaaGreatDoorP5n1
import Derived.Test.YtfcenlhaepckoaaGreatDoorNatGn1
import Derived.Test.YtfcenlhaepckoaaGreatDoorNatFn1
import Derived.Test.YtfcenlhaepckoaaGreatDoorNatEn1
import Derived.Test.YtfcenlhaepckoaaGreatDoorNatDn1
import Derived.Test.YtfcenlhaepckoaaGreatDoorNatCn1
import Derived.Test.YtfcenlhaepckoaaGreatDoorNatBn1
import Derived.Test.YtfcenlhaepckoaaGreatDoorNatAn1
import Derived.Test.YtfcenlhaepckoaaGreatDoorLibsn1
import Derived.Lib.Strings
import Derived.Lib.Repeat
import Derived.Lib.SlTrimSet
import Derived.Lib.Bytealg
import Derived.Laws.MathBits
namespace Go.Proofs.YtfcenlhaepckoaaGreatDoor.P
set_option linter.all false
set_option linter.unusedSimpArgs false
open Go.RowKit Go.Proofs.YtfcenlhaepckoaaGreatDoorW.PrintWords Go.Proofs.YtfcenlhaepckoaaGreatDoorW.PrintLast Go.Proofs.YtfcenlhaepckoaaGreatDoorW.PrintMore

def shrR (z n : Int) : List Int × Bool × Int :=
  if n < 0 then ([], false, 1) else if big z = true then ([], false, 2) else (can (z / 2 ^ n.toNat), decide (z % 2 ^ n.toNat ≠ 0), 0)

theorem shr_limb (x : Int) {s : Nat} (hs : s ≤ 31) : shr .u64 x (s : Int) = x / 2 ^ s := by
  show x / 2 ^ min (Int.toNat (s : Int)) 64 = _
  rw [Int.toNat_natCast, Nat.min_eq_left (by omega)]
theorem pow32_split {s : Nat} (hs : s ≤ 31) : (4294967296 : Int) = 2 ^ s * 2 ^ (32 - s) := by
  rw [← Int.pow_add, show s + (32 - s) = 32 by omega]; decide
theorem mask_ev {x : Int} {s : Nat} (h0 : 0 ≤ x) (h1 : x < 4294967296) (hs : s ≤ 31) : bits .and .u32 x (((shl .u32 1 (s : Int)) - 1) % 4294967296) = x % 2 ^ s := by
  have hp := pow2_31 hs
  have hpp := pow2_pos s
  have e : shl .u32 1 (s : Int) = 2 ^ s := by
    show IntKind.u32.wrap (1 * 2 ^ min (Int.toNat (s : Int)) 32) = _
    rw [Int.toNat_natCast, Nat.min_eq_left (by omega), Int.one_mul, IntKind.wrap_u32]; omega
  rw [e, show (2 ^ s - 1 : Int) % 4294967296 = 2 ^ s - 1 by omega]
  obtain ⟨a, rfl⟩ := Int.eq_ofNat_of_zero_le h0
  have e2 : (2 ^ s - 1 : Int) = ((2 ^ s - 1 : Nat) : Int) := by
    have : 0 < 2 ^ s := Nat.pow_pos (by decide)
    rw [Int.ofNat_sub (by omega)]; simp
  have hk : ∀ n : Int, 0 ≤ n → n < 2 ^ 32 → IntKind.u32.wrap n = n := fun n h0 h1 => by rw [IntKind.wrap_u32]; omega
  have hN : (2 ^ s : Nat) ≤ 2147483648 := by
    have := Nat.pow_le_pow_right (n := 2) (by decide) hs
    omega
  rw [e2, (bits_nat .u32 32 (by decide) hk a (2 ^ s - 1) (by omega) (by omega)).1, Nat.and_two_pow_sub_one_eq_mod]
  rw [Int.natCast_emod]; simp
/-- One limb of a shift down: x is the limb, V what stands above. -/
theorem shr_step {x V x1 : Int} {s : Nat} (hs : s ≤ 31) (h0 : 0 ≤ x) (h1 : x < 4294967296) (hV : V % 4294967296 = x1) :
    (x + x1 * 4294967296) / 2 ^ s % 4294967296 + 4294967296 * (V / 2 ^ s) = (x + 4294967296 * V) / 2 ^ s := by
  have hpp := pow2_pos s
  have hsp := pow32_split hs
  have e1 : (x + 4294967296 * V) / 2 ^ s / 4294967296 = V / 2 ^ s := by
    rw [Int.ediv_ediv_of_nonneg (by omega), Int.mul_comm (2 ^ s), ← Int.ediv_ediv_of_nonneg (by decide), Int.add_mul_ediv_left _ _ (by decide), Int.ediv_eq_zero_of_lt h0 h1, Int.zero_add]
  have e2 : (x + 4294967296 * V) / 2 ^ s % 4294967296 = (x + x1 * 4294967296) / 2 ^ s % 4294967296 := by
    obtain ⟨V2, hV2⟩ : ∃ V2, V = x1 + 4294967296 * V2 := ⟨V / 4294967296, by omega⟩
    have e3 : x + 4294967296 * V = x + x1 * 4294967296 + 2 ^ s * (4294967296 * (2 ^ (32 - s) * V2)) := by
      rw [hV2]
      generalize (2 : Int) ^ s = p at *
      generalize (2 : Int) ^ (32 - s) = r at *
      have : (4294967296 : Int) * 4294967296 * V2 = p * r * 4294967296 * V2 := by rw [← hsp]
      grind
    rw [e3, Int.add_mul_ediv_left _ _ (by omega), Int.add_mul_emod_self_left]
  have := Int.emod_add_mul_ediv ((x + 4294967296 * V) / 2 ^ s) 4294967296
  rw [e1, e2] at this
  exact this
theorem val_drop_mod {l : List Int} (h : Lim l) (i : Nat) : val (l.drop i) % 4294967296 = rd l (i : Int) := by
  by_cases hi : i < l.length
  · rw [val_drop l i hi]
    have := lim_rd h (i : Int)
    omega
  · rw [List.drop_of_length_le (by omega), rd_end l i (by omega)]; rfl
theorem Shr_loop (out : List Int) (lo : Lim out) (hL : out.length ≤ 1000000) (s : Nat) (hs : s ≤ 31) (lost : Bool) : ∀ d i done, i + d = out.length → done.length = i → Lim done → val done + PW i * (val (out.drop i) / 2 ^ s) = val out / 2 ^ s →
    Ev (fun k => nat_Shr.l0 k lost (done ++ out.drop i) (s : Int) (out.length : Int) (i : Int)) (can (val out / 2 ^ s), lost, (0 : Int)) := by
  intro d
  induction d with
  | zero =>
    intro i done hi hd hL2 hv
    refine Ev.step (fun k => by rw [nat_Shr.l0]) ?_
    rw [List.drop_of_length_le (by omega)] at hv ⊢
    simp only [val, Int.zero_ediv, Int.mul_zero, Int.add_zero] at hv
    simp only [if_neg (show ¬ ((i : Int) < (out.length : Int)) by omega), List.append_nil]
    refine (right_ev done (by omega)).bind ?_
    have h1 := tr_length_le done
    simp only [if_pos (show (0 : Int) ≤ ((tr done).length : Int) by omega), if_pos (show ((tr done).length : Int) ≤ (done.length : Int) by omega), Int.toNat_natCast, tr_take]
    rw [← can_of hL2, hv]
    exact Ev.now _
  | succ d ih =>
    intro i done hi hd hL2 hv
    have hlt : i < out.length := by omega
    have hx := lim_rd lo (i : Int)
    have hx1 := lim_rd lo ((i + 1 : Nat) : Int)
    have hm := val_drop_mod lo (i + 1)
    have hst := shr_step hs hx.1 hx.2 hm
    have hlen : (done ++ out.drop i).length = out.length := by rw [List.length_append, List.length_drop]; omega
    have r0 : rd (done ++ out.drop i) (i : Int) = rd out (i : Int) := by
      unfold rd; rw [Int.toNat_natCast, List.getD, List.getD, List.getElem?_append_right (by omega), List.getElem?_drop, show i + (i - done.length) = i by omega]
    have r1 : rd (done ++ out.drop i) ((i + 1 : Nat) : Int) = rd out ((i + 1 : Nat) : Int) := by
      unfold rd; rw [Int.toNat_natCast, List.getD, List.getD, List.getElem?_append_right (by omega), List.getElem?_drop, show i + (i + 1 - done.length) = i + 1 by omega]
    have hset : ∀ v, (done ++ out.drop i).set i v = (done ++ [v]) ++ out.drop (i + 1) := by
      intro v
      rw [List.drop_eq_getElem_cons hlt, List.set_append_right _ _ (by omega), show i - done.length = 0 by omega, List.set_cons_zero, List.append_assoc]; rfl
    have hor : bits .or .u64 (rd out (i : Int)) (rd out ((i + 1 : Nat) : Int) * 4294967296) = rd out (i : Int) + rd out ((i + 1 : Nat) : Int) * 4294967296 := orLo hx.1 hx.2 hx1.1 hx1.2
    have next := ih (i + 1) (done ++ [(rd out (i : Int) + rd out ((i + 1 : Nat) : Int) * 4294967296) / 2 ^ s % 4294967296]) (by omega) (by simp [hd]) (Lim.append.2 ⟨hL2, Lim.one (by omega) (by omega)⟩) (by
      rw [val_append, val_one, hd, ← hv, PW_succ, val_drop out i hlt, ← hst]; grind)
    refine Ev.step (fun k => by rw [nat_Shr.l0]) ?_
    simp only [if_pos (show ((i : Int) < (out.length : Int)) by omega), if_pos (show (0 : Int) ≤ (i : Int) by omega), if_pos (show (i : Int) < ((done ++ out.drop i).length : Int) by omega), w64s (show i ≤ 1000000000 by omega), if_pos (show (0 : Int) ≤ ((i + 1 : Nat) : Int) by omega), if_pos (show (0 : Int) ≤ (s : Int) by omega), r0, r1, Int.toNat_natCast, hset,
      u64w hx.1 (show rd out (i : Int) < 18446744073709551616 by omega), u64w hx1.1 (show rd out ((i + 1 : Nat) : Int) < 18446744073709551616 by omega), u64w (show 0 ≤ rd out ((i + 1 : Nat) : Int) * 4294967296 by omega) (show rd out ((i + 1 : Nat) : Int) * 4294967296 < 18446744073709551616 by omega), hor, shr_limb _ hs]
    by_cases hi1 : ((i + 1 : Nat) : Int) < ((done ++ out.drop i).length : Int)
    · simp only [if_pos hi1]; exact next
    · simp only [if_neg hi1]
      rw [rd_end out (i + 1) (by omega), Int.zero_mul, Int.add_zero] at next
      exact next
theorem Shr_j1 (out : List Int) (lo : Lim out) (hL : out.length ≤ 1000000) (s : Nat) (hs : s ≤ 31) (lost : Bool) :
    Ev (fun k => nat_Shr.j1 k lost out (s : Int)) (can (val out / 2 ^ s), lost, (0 : Int)) := by
  refine Ev.step (fun k => by rw [nat_Shr.j1]) ?_
  exact Shr_loop out lo hL s hs lost out.length 0 [] (by omega) rfl Lim.nil (by simp [val, PW_zero])
theorem val_mod_pow {l : List Int} (h : Lim l) {s : Nat} (hs : s ≤ 31) : val l % 2 ^ s = rd l 0 % 2 ^ s := by
  have h0 := val_drop_mod h 0
  rw [List.drop_zero] at h0
  have hsp := pow32_split hs
  have e := Int.emod_add_mul_ediv (val l) 4294967296
  rw [h0] at e
  generalize val l / 4294967296 = V at e
  rw [← e, hsp, Int.mul_assoc, Int.add_mul_emod_self_left]; rfl
theorem Shr_j0 (out : List Int) (lo : Lim out) (hL : out.length ≤ 1000000) (hp : 0 < out.length) (s : Nat) (hs : s ≤ 31) (lost : Bool) :
    Ev (fun k => nat_Shr.j0 k lost out (s : Int) false) (can (val out / 2 ^ s), lost || decide (val out % 2 ^ s ≠ 0), (0 : Int)) := by
  refine Ev.step (fun k => by rw [nat_Shr.j0]) ?_
  cases lost with
  | true => simp only [Bool.false_eq_true, if_false, if_true, Bool.true_or]; exact Shr_j1 out lo hL s hs true
  | false =>
    have hx := lim_rd lo 0
    simp only [Bool.false_eq_true, if_false, if_pos (show (0 : Int) < (out.length : Int) by omega), if_pos (show (0 : Int) ≤ (s : Int) by omega), mask_ev hx.1 hx.2 hs, Bool.false_or]
    have := Shr_j1 out lo hL s hs (rd out 0 % 2 ^ s != 0)
    rw [val_mod_pow lo hs]
    have e : decide (rd out 0 % 2 ^ s ≠ 0) = (rd out 0 % 2 ^ s != 0) := by
      rw [Bool.eq_iff_iff]; simp
    rw [e]
    exact this
theorem val_pos_iff {l : List Int} (h : Lim l) : (tr l).length > 0 ↔ val l ≠ 0 := by
  rw [← can_of h]
  have hn := val_nonneg h
  have := can_length hn 0
  rw [PW_zero] at this
  omega
theorem Shr_tail (p : List Int) (lp : Lim p) (hp : p.length ≤ 1000) (n : Int) (hn0 : 0 ≤ n) (hn : n ≤ 9223372036854775807) :
    Ev (fun k => if 0 ≤ (mn (wrap64 (Int.tdiv n 32)) (p.length : Int)) then (if (mn (wrap64 (Int.tdiv n 32)) (p.length : Int)) ≤ (p.length : Int) then ((nat_right.f k (p.take ((mn (wrap64 (Int.tdiv n 32)) (p.length : Int)) : Int).toNat)).bind fun t263 => (if 0 ≤ (wrap64 ((p.length : Int) - (mn (wrap64 (Int.tdiv n 32)) (p.length : Int)))) then (if (wrap64 ((p.length : Int) - (mn (wrap64 (Int.tdiv n 32)) (p.length : Int))) : Int).toNat ≤ 70368744177664 then ((some (List.replicate (wrap64 ((p.length : Int) - (mn (wrap64 (Int.tdiv n 32)) (p.length : Int))) : Int).toNat 0 : List Int)).bind fun y264 => ((some (overlay_ y264 (p.drop ((mn (wrap64 (Int.tdiv n 32)) (p.length : Int)) : Int).toNat) : List Int)).bind fun y272 => (if (y264.length : Int) = 0 then (nat_Shr.j0 k (decide (t263 > 0)) y272 (Int.tmod n 32) true) else (nat_Shr.j0 k (decide (t263 > 0)) y272 (Int.tmod n 32) (decide ((mn (wrap64 (Int.tdiv n 32)) (p.length : Int)) < (wrap64 (Int.tdiv n 32)))))))) else (none)) else (none))) else (none)) else (none))
      (can (val p / 2 ^ n.toNat), decide (val p % 2 ^ n.toNat ≠ 0), (0 : Int)) := by
  have e1 : wrap64 (Int.tdiv n 32) = ((n.toNat / 32 : Nat) : Int) := by rw [Int.tdiv_eq_ediv_of_nonneg hn0, w64 (by omega) (by omega)]; omega
  have e2 : Int.tmod n 32 = ((n.toNat % 32 : Nat) : Int) := by rw [Int.tmod_eq_emod_of_nonneg hn0]; omega
  have hs : n.toNat % 32 ≤ 31 := by omega
  have hN : n.toNat = 32 * (n.toNat / 32) + n.toNat % 32 := by omega
  rw [e1, e2]
  generalize n.toNat / 32 = q at hN ⊢
  generalize n.toNat % 32 = s at hs hN ⊢
  rw [hN]
  clear hN e1 e2 hn0 hn
  have e3 : mn (q : Int) (p.length : Int) = ((min q p.length : Nat) : Int) := by unfold mn; split <;> omega
  rw [e3]
  have hv0 := val_nonneg lp
  by_cases hq : q < p.length
  · rw [Nat.min_eq_left (by omega), w64 (x := (p.length : Int) - (q : Int)) (by omega) (by omega), show (p.length : Int) - (q : Int) = ((p.length - q : Nat) : Int) by omega, Int.toNat_natCast, Int.toNat_natCast]
    generalize hm : p.length - q = m
    have ho : overlay_ (List.replicate m 0) (p.drop q) = p.drop q := by
      have hz : (List.replicate m (0 : Int)).drop m = [] := List.drop_of_length_le (by simp)
      unfold overlay_
      rw [List.length_replicate, List.length_drop, hm, Nat.min_self, List.take_of_length_le (by rw [List.length_drop]; omega), hz, List.append_nil]
    simp only [if_pos (show (0 : Int) ≤ (q : Int) by omega), if_pos (show (q : Int) ≤ (p.length : Int) by omega), if_pos (show (0 : Int) ≤ (m : Int) by omega), if_pos (show m ≤ 70368744177664 by omega), Option.bind_some, List.length_replicate, if_neg (show ¬ ((m : Int) = 0) by omega), ho, decide_eq_false (show ¬ ((q : Int) < (q : Int)) by omega)]
    refine (right_ev _ (by rw [List.length_take]; omega)).bind ?_
    have key := Shr_j0 (p.drop q) (lp.drop q) (by rw [List.length_drop]; omega) (by rw [List.length_drop]; omega) s hs (decide (((tr (p.take q)).length : Int) > 0))
    have hsplit : val p = val (p.take q) + PW q * val (p.drop q) := by
      have := val_append (p.take q) (p.drop q)
      rw [List.take_append_drop, List.length_take, Nat.min_eq_left (by omega)] at this
      exact this
    have ht := val_take_lt lp q
    have hP := PW_pos q
    have h2 := pow2_pos s
    rw [Int.pow_add, ← PW_two, hsplit]
    have d1 : (val (p.take q) + PW q * val (p.drop q)) / (PW q * 2 ^ s) = val (p.drop q) / 2 ^ s := by
      rw [← Int.ediv_ediv_of_nonneg (by omega), Int.add_mul_ediv_left _ _ (by omega), Int.ediv_eq_zero_of_lt ht.1 ht.2, Int.zero_add]
    have d2 : (val (p.take q) + PW q * val (p.drop q)) % (PW q * 2 ^ s) = val (p.take q) + PW q * (val (p.drop q) % 2 ^ s) := by
      have := Int.emod_add_mul_ediv (val (p.take q) + PW q * val (p.drop q)) (PW q * 2 ^ s)
      rw [d1] at this
      have h3 := Int.emod_add_mul_ediv (val (p.drop q)) (2 ^ s)
      generalize val (p.drop q) % 2 ^ s = M at *
      generalize val (p.drop q) / 2 ^ s = D at *
      rw [← h3] at this ⊢
      grind
    rw [d1, d2]
    have hM := Int.emod_nonneg (val (p.drop q)) (show (2 : Int) ^ s ≠ 0 by omega)
    have e : decide (val (p.take q) + PW q * (val (p.drop q) % 2 ^ s) ≠ 0) = (decide (((tr (p.take q)).length : Int) > 0) || decide (val (p.drop q) % 2 ^ s ≠ 0)) := by
      have hi := val_pos_iff (lp.take q)
      have hmul := Int.mul_nonneg (show 0 ≤ PW q by omega) hM
      have hz : PW q * (val (p.drop q) % 2 ^ s) = 0 ↔ val (p.drop q) % 2 ^ s = 0 := by
        rw [Int.mul_eq_zero]
        constructor
        · rintro (h | h)
          · omega
          · exact h
        · exact Or.inr
      rw [Bool.eq_iff_iff]
      simp only [Bool.or_eq_true, decide_eq_true_eq]
      rw [show (((tr (p.take q)).length : Int) > 0) ↔ (tr (p.take q)).length > 0 by omega, hi]
      generalize PW q * (val (p.drop q) % 2 ^ s) = A at *
      generalize val (p.drop q) % 2 ^ s = C at *
      omega
    rw [e]
    exact key
  · rw [Nat.min_eq_right (by omega), w64 (x := (p.length : Int) - (p.length : Int)) (by omega) (by omega), show (p.length : Int) - (p.length : Int) = ((0 : Nat) : Int) by omega, Int.toNat_natCast, Int.toNat_natCast, List.take_length]
    simp only [if_pos (show (0 : Int) ≤ (p.length : Int) by omega), if_pos (Int.le_refl (p.length : Int)), if_pos (show (0 : Int) ≤ ((0 : Nat) : Int) by decide), if_pos (Nat.zero_le 70368744177664), Option.bind_some, List.replicate_zero, List.length_nil, if_pos (show ((0 : Nat) : Int) = 0 from rfl)]
    refine (right_ev p (by omega)).bind ?_
    refine Ev.step (fun k => by rw [nat_Shr.j0]) ?_
    simp only [if_true]
    have hlt := val_lt lp
    have hle := PW_le (show p.length ≤ q by omega)
    have h2 := pow2_pos s
    have hbig : val p < 2 ^ (32 * q + s) := by
      rw [Int.pow_add, ← PW_two]
      have := Int.mul_le_mul_of_nonneg_left (show (1 : Int) ≤ 2 ^ s by omega) (show 0 ≤ PW q by have := PW_pos q; omega)
      omega
    rw [Int.ediv_eq_zero_of_lt hv0 hbig, Int.emod_eq_of_lt hv0 hbig, can_zero]
    have hi := val_pos_iff lp
    have e : decide (((tr p).length : Int) > 0) = decide (val p ≠ 0) := by
      rw [Bool.eq_iff_iff]
      simp only [decide_eq_true_eq]
      rw [show (((tr p).length : Int) > 0) ↔ (tr p).length > 0 by omega, hi]
    rw [e]
    exact Ev.now _
theorem Shr_ev (a : List Int) (n : Int) (la : Lim a) (ha : a.length ≤ 100000) (hn : n ≤ 9223372036854775807) : Ev (fun k => nat_Shr.f k a n) (shrR (val a) n) := by
  unfold nat_Shr.f shrR
  by_cases c1 : n < 0
  · simp only [if_pos c1]; exact Ev.now _
  · rw [if_neg c1]
    refine Ev.congr (fun k => if_neg c1) ?_
    refine (over1_ev a (by omega) la).bind ?_
    cases hb : big (val a) with
    | true => simp only [if_true]; exact Ev.now _
    | false =>
      rw [if_neg (by decide)]
      refine Ev.congr (fun k => if_neg (by decide)) ?_
      have hl : (tr a).length ≤ 256 := by have := not_big_len hb; rw [can_of la] at this; exact this
      refine cut_ev _ a (by omega) ?_
      have := Shr_tail (tr a) (tr_Lim la) (by omega) n (by omega) hn
      rw [tr_val] at this
      exact this
end Go.Proofs.YtfcenlhaepckoaaGreatDoor.P
