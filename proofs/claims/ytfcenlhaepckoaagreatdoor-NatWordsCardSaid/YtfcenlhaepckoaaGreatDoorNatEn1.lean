import Derived.Test.YtfcenlhaepckoaaGreatDoorNatCn1
import Derived.Test.YtfcenlhaepckoaaGreatDoorNatBn1
import Derived.Test.YtfcenlhaepckoaaGreatDoorP0n1
import Derived.Test.YtfcenlhaepckoaaGreatDoorProg
import Derived.Test.YtfcenlhaepckoaaGreatDoorP1n1
import Derived.Test.YtfcenlhaepckoaaGreatDoorP3n1
import Derived.Test.YtfcenlhaepckoaaGreatDoorNatAn1
import Derived.Test.YtfcenlhaepckoaaGreatDoorLibsn1
import Derived.Lib.Strings
import Derived.Lib.Repeat
import Derived.Lib.SlTrimSet
import Derived.Lib.Bytealg
import Derived.Laws.MathBits
namespace Go.Proofs.YtfcenlhaepckoaaGreatDoor.P
set_option linter.all false
set_option linter.unusedSimpArgs false
open Go.RowKit Go.Proofs.YtfcenlhaepckoaaGreatDoorW.PrintWords Go.Proofs.YtfcenlhaepckoaaGreatDoorW.PrintLast Go.Proofs.YtfcenlhaepckoaaGreatDoorW.PrintMore

theorem rd_set_ne (l : List Int) (i j : Nat) (v : Int) (h : i ≠ j) : rd (l.set i v) (j : Int) = rd l (j : Int) := by
  unfold rd; rw [Int.toNat_natCast, List.getD, List.getD, List.getElem?_set_ne h]
theorem rd_set_eq (l : List Int) (i : Nat) (v : Int) (h : i < l.length) : rd (l.set i v) (i : Int) = v := by
  unfold rd; rw [Int.toNat_natCast, List.getD, List.getElem?_set_self h]; rfl
theorem rd_zeros (n : Nat) (i : Int) : rd (List.replicate n 0) i = 0 := by
  unfold rd; rw [List.getD, List.getElem?_replicate]; split <;> rfl
theorem w64add {i k : Nat} (h : i + k ≤ 1000000000) : wrap64 ((i : Int) + (k : Int)) = ((i + k : Nat) : Int) := by rw [w64 (by omega) (by omega)]; rfl
theorem mul_arith {X q r t a b o c V u v w B : Int} (h : X + u * c = V + v * (a * q)) (e : r + B * t = a * b + o + c) (hu : u = v * w) : X + u * (r - o) + B * u * t = V + v * (a * (q + w * b)) := by
  have : u * (r + B * t) = u * (a * b + o + c) := by rw [e]
  subst hu
  grind
theorem mul_in {p q : List Int} (hp : Lim p) (hq : Lim q) {L i k : Nat} {x6 : List Int} {c V : Int} (hi : i < p.length) (hk : k < q.length) (hL : p.length + q.length ≤ L)
    (hx : x6.length = L) (lx : Lim x6) (hc : 0 ≤ c ∧ c < 4294967296) (hz : ∀ j : Nat, i + q.length ≤ j → rd x6 (j : Int) = 0) (hv : val x6 + PW (i + k) * c = V + PW i * (rd p (i : Int) * val (q.take k))) :
    (0 ≤ rd p (i : Int) * rd q (k : Int) + rd x6 ((i + k : Nat) : Int) + c ∧ rd p (i : Int) * rd q (k : Int) + rd x6 ((i + k : Nat) : Int) + c < 18446744073709551616) ∧
    (0 ≤ rd p (i : Int) * rd q (k : Int) ∧ rd p (i : Int) * rd q (k : Int) < 18446744073709551616) ∧
    (0 ≤ rd p (i : Int) * rd q (k : Int) + rd x6 ((i + k : Nat) : Int) ∧ rd p (i : Int) * rd q (k : Int) + rd x6 ((i + k : Nat) : Int) < 18446744073709551616) ∧
    (0 ≤ (rd p (i : Int) * rd q (k : Int) + rd x6 ((i + k : Nat) : Int) + c) / 4294967296 ∧ (rd p (i : Int) * rd q (k : Int) + rd x6 ((i + k : Nat) : Int) + c) / 4294967296 < 4294967296) ∧
    (x6.set (i + k) ((rd p (i : Int) * rd q (k : Int) + rd x6 ((i + k : Nat) : Int) + c) % 4294967296)).length = L ∧
    Lim (x6.set (i + k) ((rd p (i : Int) * rd q (k : Int) + rd x6 ((i + k : Nat) : Int) + c) % 4294967296)) ∧
    (∀ j : Nat, i + q.length ≤ j → rd (x6.set (i + k) ((rd p (i : Int) * rd q (k : Int) + rd x6 ((i + k : Nat) : Int) + c) % 4294967296)) (j : Int) = 0) ∧
    val (x6.set (i + k) ((rd p (i : Int) * rd q (k : Int) + rd x6 ((i + k : Nat) : Int) + c) % 4294967296)) + PW (i + (k + 1)) * ((rd p (i : Int) * rd q (k : Int) + rd x6 ((i + k : Nat) : Int) + c) / 4294967296) = V + PW i * (rd p (i : Int) * val (q.take (k + 1))) := by
  have ha := lim_rd hp (i : Int)
  have hb := lim_rd hq (k : Int)
  have ho := lim_rd lx ((i + k : Nat) : Int)
  have hab := prod_bound (rd p (i : Int)) (rd q (k : Int)) ha.1 (by omega) hb.1 (by omega)
  refine ⟨by omega, by omega, by omega, by omega, by rw [List.length_set]; exact hx, lx.set _ (by omega) (by omega), ?_, ?_⟩
  · intro j hj
    rw [rd_set_ne _ _ _ _ (by omega)]
    exact hz j hj
  · rw [val_set _ _ (by omega), val_take_succ q k hk, ← Nat.add_assoc, PW_succ]
    refine mul_arith (w := PW k) hv ?_ (PW_add i k)
    omega
theorem mul_out {p q : List Int} {L i : Nat} {x6 : List Int} {c V : Int} (hi : i < p.length) (hL : p.length + q.length ≤ L)
    (hx : x6.length = L) (lx : Lim x6) (hc : 0 ≤ c ∧ c < 4294967296) (hz : ∀ j : Nat, i + q.length ≤ j → rd x6 (j : Int) = 0) (hv : val x6 + PW (i + q.length) * c = V + PW i * (rd p (i : Int) * val (q.take q.length))) :
    (x6.set (i + q.length) c).length = L ∧ Lim (x6.set (i + q.length) c) ∧ (∀ j : Nat, i + 1 + q.length ≤ j → rd (x6.set (i + q.length) c) (j : Int) = 0) ∧
    val (x6.set (i + q.length) c) = V + PW i * (rd p (i : Int) * val q) := by
  refine ⟨by rw [List.length_set]; exact hx, lx.set _ hc.1 hc.2, ?_, ?_⟩
  · intro j hj
    rw [rd_set_ne _ _ _ _ (by omega)]
    exact hz j (by omega)
  · rw [val_set _ _ (by omega), hz _ (Nat.le_refl _), Int.sub_zero, hv, List.take_length]

theorem Mul_inner (p q : List Int) (hp : Lim p) (hq : Lim q) (L : Nat) (hL : p.length + q.length ≤ L) (hL2 : L ≤ 1000000) (i : Nat) (hi : i < p.length) (V : Int) (R : List Int × Int)
    (H : ∀ x6 : List Int, x6.length = L → Lim x6 → (∀ j : Nat, i + 1 + q.length ≤ j → rd x6 (j : Int) = 0) → val x6 = V + PW i * (rd p (i : Int) * val q) → Ev (fun k => nat_Mul.l0 k p q x6 (p.length : Int) ((i + 1 : Nat) : Int)) R) :
    ∀ d k x6 c, k + d = q.length → x6.length = L → Lim x6 → (0 ≤ c ∧ c < 4294967296) → (∀ j : Nat, i + q.length ≤ j → rd x6 (j : Int) = 0) → val x6 + PW (i + k) * c = V + PW i * (rd p (i : Int) * val (q.take k)) →
    Ev (fun n => nat_Mul.l1 n p q x6 (i : Int) c (p.length : Int) (i : Int) (q.length : Int) (k : Int)) R := by
  intro d
  induction d with
  | zero =>
    intro k x6 c hk hx lx hc hz hv
    have hk' : k = q.length := by omega
    subst hk'
    refine Ev.step (fun n => by rw [nat_Mul.l1]) ?_
    have hcm : c % 4294967296 = c := by omega
    simp only [if_neg (show ¬ ((q.length : Int) < (q.length : Int)) by omega), w64add (show i + q.length ≤ 1000000000 by omega), if_pos (show (0 : Int) ≤ ((i + q.length : Nat) : Int) by omega), if_pos (show ((i + q.length : Nat) : Int) < (x6.length : Int) by omega), Int.toNat_natCast, w64s (show i ≤ 1000000000 by omega), hcm]
    obtain ⟨a1, a2, a3, a4⟩ := mul_out hi hL hx lx hc hz hv
    exact H _ a1 a2 a3 a4
  | succ d ih =>
    intro k x6 c hk hx lx hc hz hv
    refine Ev.step (fun n => by rw [nat_Mul.l1]) ?_
    obtain ⟨b1, b2, b3, b4, a1, a2, a3, a4⟩ := mul_in hp hq hi (show k < q.length by omega) hL hx lx hc hz hv
    have ha := lim_rd hp (i : Int)
    have hb := lim_rd hq (k : Int)
    have ho := lim_rd lx ((i + k : Nat) : Int)
    simp only [if_pos (show ((k : Int) < (q.length : Int)) by omega), if_pos (show (0 : Int) ≤ (i : Int) by omega), if_pos (show (i : Int) < (p.length : Int) by omega), if_pos (show (0 : Int) ≤ (k : Int) by omega), w64add (show i + k ≤ 1000000000 by omega),
      if_pos (show (0 : Int) ≤ ((i + k : Nat) : Int) by omega), if_pos (show ((i + k : Nat) : Int) < (x6.length : Int) by omega), Int.toNat_natCast, w64s (show k ≤ 1000000000 by omega),
      u64w ha.1 (show rd p (i : Int) < 18446744073709551616 by omega), u64w hb.1 (show rd q (k : Int) < 18446744073709551616 by omega), u64w ho.1 (show rd x6 ((i + k : Nat) : Int) < 18446744073709551616 by omega), u64w b2.1 b2.2, u64w b3.1 b3.2, u64w b1.1 b1.2]
    exact ih (k + 1) _ _ (by omega) a1 a2 b4 a3 a4
theorem Mul_loop (p q : List Int) (hp : Lim p) (hq : Lim q) (L : Nat) (hL : p.length + q.length ≤ L) (hL2 : L ≤ 1000000) : ∀ d i x6, i + d = p.length → x6.length = L → Lim x6 → (∀ j : Nat, i + q.length ≤ j → rd x6 (j : Int) = 0) → val x6 = val (p.take i) * val q →
    Ev (fun k => nat_Mul.l0 k p q x6 (p.length : Int) (i : Int)) (fitR (val p * val q)) := by
  intro d
  induction d with
  | zero =>
    intro i x6 hi hx lx hz hv
    refine Ev.step (fun k => by rw [nat_Mul.l0]) ?_
    simp only [if_neg (show ¬ ((i : Int) < (p.length : Int)) by omega)]
    rw [List.take_of_length_le (by omega)] at hv
    have := fits_ev x6 (by omega) lx
    rw [hv] at this
    exact this.bind (Ev.now _)
  | succ d ih =>
    intro i x6 hi hx lx hz hv
    refine Ev.step (fun k => by rw [nat_Mul.l0]) ?_
    simp only [if_pos (show ((i : Int) < (p.length : Int)) by omega)]
    refine Mul_inner p q hp hq L hL hL2 i (by omega) (val x6) _ ?_ q.length 0 x6 0 (by omega) hx lx (by omega) hz (by simp [val])
    intro y hy ly hzy hvy
    refine ih (i + 1) y (by omega) hy ly hzy ?_
    rw [hvy, hv, val_take_succ p i (by omega)]
    grind
def mulR (x y : Int) : List Int × Int := if (big x || big y) = true then ([], 2) else fitR (x * y)
/-- A list cut to its right length, and what follows. (A 'simp' over what follows would make the kernel compare great bounds.) -/
theorem cut_ev {β : Type} (F : Nat → List Int → Option β) (l : List Int) (hl : l.length ≤ 1000000) {r : β} (h : Ev (fun k => F k (tr l)) r) :
    Ev (fun k => (nat_right.f k l).bind fun t => (if 0 ≤ t then (if t ≤ (l.length : Int) then ((some (l.take (t : Int).toNat : List Int)).bind fun y => F k y) else none) else none)) r := by
  refine (right_ev l hl).bind ?_
  have h1 := tr_length_le l
  simp only [if_pos (show (0 : Int) ≤ ((tr l).length : Int) by omega), if_pos (show ((tr l).length : Int) ≤ (l.length : Int) by omega), Option.bind_some, Int.toNat_natCast, tr_take]
  exact h
theorem Mul_tail (p q : List Int) (hp : Lim p) (hq : Lim q) (h1 : p.length ≤ 100000) (h2 : q.length ≤ 100000) :
    Ev (fun k => if 0 ≤ (wrap64 ((p.length : Int) + (q.length : Int))) then (if (wrap64 ((p.length : Int) + (q.length : Int)) : Int).toNat ≤ 70368744177664 then (nat_Mul.l0 k p q (List.replicate (wrap64 ((p.length : Int) + (q.length : Int)) : Int).toNat 0) (p.length : Int) 0) else (none)) else (none)) (fitR (val p * val q)) := by
  rw [w64add (show p.length + q.length ≤ 1000000000 by omega), Int.toNat_natCast]
  generalize hL : p.length + q.length = L
  simp only [if_pos (show (0 : Int) ≤ (L : Int) by omega), if_pos (show L ≤ 70368744177664 by omega)]
  exact Mul_loop p q hp hq L (by omega) (by omega) p.length 0 (List.replicate L 0) (by omega) (by simp) (Lim.zeros _) (fun j _ => rd_zeros _ _) (by rw [val_zeros, List.take_zero]; simp [val])
theorem Mul_ev (a b : List Int) (ha : a.length ≤ 100000) (hb : b.length ≤ 100000) (la : Lim a) (lb : Lim b) : Ev (fun k => nat_Mul.f k a b) (mulR (val a) (val b)) := by
  unfold nat_Mul.f mulR
  refine (over2_ev a b (by omega) (by omega) la lb).bind ?_
  by_cases ho : (big (val a) || big (val b)) = true
  · simp only [if_pos ho]; exact Ev.now _
  · rw [if_neg ho]
    have h1 := tr_length_le a
    have h2 := tr_length_le b
    refine Ev.congr (fun k => if_neg ho) ?_
    refine cut_ev _ a (by omega) ?_
    refine cut_ev _ b (by omega) ?_
    have := Mul_tail (tr a) (tr b) (tr_Lim la) (tr_Lim lb) (by omega) (by omega)
    rw [tr_val, tr_val] at this
    exact this

end Go.Proofs.YtfcenlhaepckoaaGreatDoor.P
