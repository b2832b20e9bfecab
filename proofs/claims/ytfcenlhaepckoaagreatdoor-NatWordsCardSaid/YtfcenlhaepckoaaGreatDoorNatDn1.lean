import Derived.Test.YtfcenlhaepckoaaGreatDoorNatCn1
import Derived.Test.YtfcenlhaepckoaaGreatDoorNatBn1
import Derived.Test.YtfcenlhaepckoaaGreatDoorP0n1
import Derived.Test.YtfcenlhaepckoaaGreatDoorProg
import Derived.Test.YtfcenlhaepckoaaGreatDoorP1n1
import Derived.Test.YtfcenlhaepckoaaGreatDoorP2n1
import Derived.Test.YtfcenlhaepckoaaGreatDoorP3n1
import Derived.Test.YtfcenlhaepckoaaGreatDoorNatAn1
import Derived.Test.YtfcenlhaepckoaaGreatDoorLibsn1
import Derived.Lib.Strings
import Derived.Lib.Repeat
import Derived.Lib.SlTrimSet
import Derived.Lib.Bytealg
namespace Go.Proofs.YtfcenlhaepckoaaGreatDoor.P
set_option linter.all false
set_option linter.unusedSimpArgs false
open Go.RowKit Go.Proofs.YtfcenlhaepckoaaGreatDoorW.PrintWords Go.Proofs.YtfcenlhaepckoaaGreatDoorW.PrintLast Go.Proofs.YtfcenlhaepckoaaGreatDoorW.PrintMore

theorem rd_end (l : List Int) (i : Nat) (h : l.length ≤ i) : rd l (i : Int) = 0 := by
  unfold rd; rw [Int.toNat_natCast, List.getD, List.getElem?_eq_none h]; rfl
theorem val_take_succ' (l : List Int) (i : Nat) : val (l.take (i + 1)) = val (l.take i) + PW i * rd l (i : Int) := by
  by_cases h : i < l.length
  · exact val_take_succ l i h
  · rw [rd_end l i (by omega), List.take_of_length_le (by omega), List.take_of_length_le (by omega)]; omega
theorem set_here (a : List Int) (d : Nat) (v : Int) : (a ++ List.replicate (d + 1) 0).set a.length v = (a ++ [v]) ++ List.replicate d 0 := by
  rw [List.replicate_succ, List.set_append_right _ _ (Nat.le_refl _), Nat.sub_self, List.set_cons_zero, List.append_assoc]; rfl
theorem add32 {x y c : Int} (hx : 0 ≤ x ∧ x < 4294967296) (hy : 0 ≤ y ∧ y < 4294967296) (hc : c = 0 ∨ c = 1) : bits_Add32.f x y c = some ((x + y + c) % 4294967296, (x + y + c) / 4294967296) := by
  unfold bits_Add32.f
  rw [u64w hx.1 (by omega), u64w hy.1 (by omega), u64w (n := c) (by omega) (by omega), u64w (n := x + y) (by omega) (by omega), u64w (by omega) (by omega)]
  rw [show (x + y + c) / 4294967296 % 4294967296 = (x + y + c) / 4294967296 by omega]
/-- One step of a sum. -/
theorem sum_step {D u v q x y c : Int} (h : D + q * c = u + v) : D + q * ((x + y + c) % 4294967296) + 4294967296 * q * ((x + y + c) / 4294967296) = u + q * x + (v + q * y) := by
  have e : (x + y + c) % 4294967296 + 4294967296 * ((x + y + c) / 4294967296) = x + y + c := by omega
  generalize (x + y + c) % 4294967296 = r at *
  generalize (x + y + c) / 4294967296 = t at *
  have : q * (r + 4294967296 * t) = q * (x + y + c) := by rw [e]
  grind
theorem Add_loop (p q : List Int) (hp : Lim p) (hq : Lim q) (hn : p.length ≤ 100000) (hqn : q.length ≤ p.length) : ∀ d i done c, i + d = p.length → done.length = i → Lim done → (c = 0 ∨ c = 1) →
    val done + PW i * c = val (p.take i) + val (q.take i) →
    Ev (fun k => nat_Add.l0 k p q (done ++ List.replicate (d + 1) 0) c (p.length : Int) (i : Int)) (fitR (val p + val q)) := by
  intro d
  induction d with
  | zero =>
    intro i done c hi hd hL hc hv
    refine Ev.step (fun k => by rw [nat_Add.l0]) ?_
    have e : (done ++ List.replicate (0 + 1) 0).set ((p.length : Int)).toNat c = done ++ [c] := by
      rw [Int.toNat_natCast, show p.length = done.length by omega, set_here]; simp
    simp only [if_neg (show ¬ ((i : Int) < (p.length : Int)) by omega), if_pos (show (0 : Int) ≤ (p.length : Int) by omega), e, if_pos (show ((p.length : Int) < ((done ++ List.replicate (0 + 1) 0).length : Int)) by simp; omega)]
    have hL2 : Lim (done ++ [c]) := Lim.append.2 ⟨hL, Lim.one (by omega) (by omega)⟩
    have := fits_ev (done ++ [c]) (by simp; omega) hL2
    rw [val_append, val_one, hd, hv, List.take_of_length_le (by omega), List.take_of_length_le (by omega)] at this
    exact this.bind (Ev.now _)
  | succ d ih =>
    intro i done c hi hd hL hc hv
    refine Ev.step (fun k => by rw [nat_Add.l0]) ?_
    have hx := lim_rd hp (i : Int)
    have hy := lim_rd hq (i : Int)
    have hlen : ((i : Int) < ((done ++ List.replicate (d + 1 + 1) 0).length : Int)) := by simp; omega
    simp only [if_pos (show ((i : Int) < (p.length : Int)) by omega), if_pos (show (0 : Int) ≤ (i : Int) by omega), if_pos hlen]
    have key : Ev (fun k => nat_Add.l0 k p q ((done ++ List.replicate (d + 1 + 1) 0).set (i : Int).toNat ((rd p i + rd q i + c) % 4294967296)) ((rd p i + rd q i + c) / 4294967296) (p.length : Int) (wrap64 ((i : Int) + 1))) (fitR (val p + val q)) := by
      rw [Int.toNat_natCast, ← hd, set_here, hd, w64s (by omega)]
      refine ih (i + 1) _ _ (by omega) (by simp [hd]) (Lim.append.2 ⟨hL, Lim.one (by omega) (by omega)⟩) (by omega) ?_
      rw [val_append, val_one, hd, val_take_succ', val_take_succ', PW_succ]
      exact sum_step hv
    by_cases hb : (i : Int) < (q.length : Int)
    · simp only [if_pos hb, add32 hx hy hc, Option.bind_some]; exact key
    · rw [rd_end q i (by omega)] at key
      simp only [if_neg hb, add32 hx (show (0 : Int) ≤ 0 ∧ (0 : Int) < 4294967296 by decide) hc, Option.bind_some]; exact key
theorem Add_j0 (p q : List Int) (hp : Lim p) (hq : Lim q) (hn : p.length ≤ 100000) (hqn : q.length ≤ p.length) : Ev (fun k => nat_Add.j0 k p q) (fitR (val p + val q)) := by
  refine Ev.step (fun k => by rw [nat_Add.j0]) ?_
  simp only [w64s (show p.length ≤ 1000000000 by omega), if_pos (show (0 : Int) ≤ ((p.length + 1 : Nat) : Int) by omega), Int.toNat_natCast, if_pos (show p.length + 1 ≤ 70368744177664 by omega)]
  have := Add_loop p q hp hq hn hqn p.length 0 [] 0 (by omega) rfl Lim.nil (.inl rfl) (by simp [val])
  simpa using this
def addR (x y : Int) : List Int × Int := if (big x || big y) = true then ([], 2) else fitR (x + y)
theorem Add_ev (a b : List Int) (ha : a.length ≤ 100000) (hb : b.length ≤ 100000) (la : Lim a) (lb : Lim b) : Ev (fun k => nat_Add.f k a b) (addR (val a) (val b)) := by
  unfold nat_Add.f addR
  refine (over2_ev a b (by omega) (by omega) la lb).bind ?_
  by_cases ho : (big (val a) || big (val b)) = true
  · simp only [if_pos ho]; exact Ev.now _
  · simp only [if_neg ho]
    refine (right_ev a (by omega)).bind ?_
    have h1 := tr_length_le a
    have h2 := tr_length_le b
    simp only [if_pos (show (0 : Int) ≤ ((tr a).length : Int) by omega), if_pos (show ((tr a).length : Int) ≤ (a.length : Int) by omega), Option.bind_some, Int.toNat_natCast, tr_take]
    refine (right_ev b (by omega)).bind ?_
    simp only [if_pos (show (0 : Int) ≤ ((tr b).length : Int) by omega), if_pos (show ((tr b).length : Int) ≤ (b.length : Int) by omega), Option.bind_some, Int.toNat_natCast, tr_take]
    by_cases c : (tr a).length < (tr b).length
    · simp only [if_pos (show ((tr a).length : Int) < ((tr b).length : Int) by omega)]
      have := Add_j0 (tr b) (tr a) (tr_Lim lb) (tr_Lim la) (by omega) (by omega)
      rw [tr_val, tr_val, Int.add_comm] at this
      exact this
    · simp only [if_neg (show ¬ (((tr a).length : Int) < ((tr b).length : Int)) by omega)]
      have := Add_j0 (tr a) (tr b) (tr_Lim la) (tr_Lim lb) (by omega) (by omega)
      rw [tr_val, tr_val] at this
      exact this

theorem can_short {z : Int} (h : 0 ≤ z) {n : Nat} (hz : z < PW n) : (can z).length ≤ n := (can_length h n).2 hz
/-- One step of a difference. -/
theorem dif_step {D u v q x y c : Int} (h : D - q * c = u - v) (hx : 0 ≤ x ∧ x < 4294967296) (hy : 0 ≤ y ∧ y < 4294967296) (hc : c = 0 ∨ c = 1) :
    D + q * ((x - y - c) % 4294967296) - 4294967296 * q * (if x < y + c then 1 else 0) = u + q * x - (v + q * y) := by
  have e : (x - y - c) % 4294967296 = x - y - c + 4294967296 * (if x < y + c then 1 else 0) := by split <;> omega
  rw [e]
  generalize (if x < y + c then (1 : Int) else 0) = t
  grind
theorem dif_end {D u v : Int} {c : Int} {n : Nat} (h : D - PW n * c = u - v) (hv : v ≤ u) (hD : D < PW n) (hc : c = 0 ∨ c = 1) : D = u - v := by
  rcases hc with rfl | rfl
  · simpa using h
  · rw [Int.mul_one] at h; omega
theorem Sub_loop (p q : List Int) (hp : Lim p) (hq : Lim q) (hn : p.length ≤ 100000) (hqn : q.length ≤ p.length) (hle : val q ≤ val p) : ∀ d i done c, i + d = p.length → done.length = i → Lim done → (c = 0 ∨ c = 1) →
    val done - PW i * c = val (p.take i) - val (q.take i) →
    Ev (fun k => nat_Sub.l0 k p q (done ++ List.replicate d 0) c (p.length : Int) (i : Int)) (can (val p - val q), (0 : Int)) := by
  intro d
  induction d with
  | zero =>
    intro i done c hi hd hL hc hv
    refine Ev.step (fun k => by rw [nat_Sub.l0]) ?_
    simp only [if_neg (show ¬ ((i : Int) < (p.length : Int)) by omega), List.replicate_zero, List.append_nil]
    refine (right_ev done (by omega)).bind ?_
    have h1 := tr_length_le done
    simp only [if_pos (show (0 : Int) ≤ ((tr done).length : Int) by omega), if_pos (show ((tr done).length : Int) ≤ (done.length : Int) by omega), Int.toNat_natCast, tr_take]
    rw [List.take_of_length_le (by omega), List.take_of_length_le (by omega)] at hv
    have hlt := val_lt hL
    rw [hd] at hlt
    rw [← dif_end hv hle hlt hc, can_of hL]
    exact Ev.now _
  | succ d ih =>
    intro i done c hi hd hL hc hv
    refine Ev.step (fun k => by rw [nat_Sub.l0]) ?_
    have hx := lim_rd hp (i : Int)
    have hy := lim_rd hq (i : Int)
    have hlen : ((i : Int) < ((done ++ List.replicate (d + 1) 0).length : Int)) := by simp; omega
    simp only [if_pos (show ((i : Int) < (p.length : Int)) by omega), if_pos (show (0 : Int) ≤ (i : Int) by omega), if_pos hlen]
    have key : Ev (fun k => nat_Sub.l0 k p q ((done ++ List.replicate (d + 1) 0).set (i : Int).toNat ((rd p i - rd q i - c) % 4294967296)) (if rd p i < rd q i + c then 1 else 0) (p.length : Int) (wrap64 ((i : Int) + 1))) (can (val p - val q), (0 : Int)) := by
      rw [Int.toNat_natCast, ← hd, set_here, hd, w64s (by omega)]
      refine ih (i + 1) _ _ (by omega) (by simp [hd]) (Lim.append.2 ⟨hL, Lim.one (by omega) (by omega)⟩) (by split <;> simp) ?_
      rw [val_append, val_one, hd, val_take_succ', val_take_succ', PW_succ]
      exact dif_step hv hx hy hc
    have s32 : ∀ y : Int, 0 ≤ y ∧ y < 4294967296 → bits_Sub32.f (rd p i) y c = some ((rd p i - y - c) % 4294967296, if rd p i < y + c then 1 else 0) := by
      intro y hy
      unfold bits_Sub32.f
      rw [if_pos ⟨hx.1, hx.2, hy.1, hy.2, hc⟩]
    by_cases hb : (i : Int) < (q.length : Int)
    · simp only [if_pos hb, s32 _ hy, Option.bind_some]; exact key
    · rw [rd_end q i (by omega)] at key
      simp only [if_neg hb, s32 0 (by decide), Option.bind_some]; exact key
def subR (x y : Int) : List Int × Int := if (big x || big y) = true then ([], 2) else if cmpR x y < 0 then ([], 6) else (can (x - y), 0)
theorem cmpR_neg {x y : Int} : cmpR x y < 0 ↔ x < y := by
  unfold cmpR
  by_cases h : x < y
  · rw [if_pos h]; exact ⟨fun _ => h, fun _ => by decide⟩
  · rw [if_neg h]
    refine ⟨fun q => ?_, fun q => absurd q h⟩
    split at q <;> omega
theorem can_mono {x y : Int} (hx : 0 ≤ x) (h : x ≤ y) : (can x).length ≤ (can y).length := by
  refine can_short hx ?_
  have := (can_length (show 0 ≤ y by omega) _).1 (Nat.le_refl _)
  omega
theorem Sub_ev (a b : List Int) (ha : a.length ≤ 100000) (hb : b.length ≤ 100000) (la : Lim a) (lb : Lim b) : Ev (fun k => nat_Sub.f k a b) (subR (val a) (val b)) := by
  unfold nat_Sub.f subR
  refine (over2_ev a b (by omega) (by omega) la lb).bind ?_
  by_cases ho : (big (val a) || big (val b)) = true
  · simp only [if_pos ho]; exact Ev.now _
  · simp only [if_neg ho]
    refine (Cmp_ev a b (by omega) (by omega) la lb).bind ?_
    by_cases hc : cmpR (val a) (val b) < 0
    · simp only [if_pos hc]; exact Ev.now _
    · simp only [if_neg hc]
      have hle : val b ≤ val a := by have := mt cmpR_neg.2 hc; omega
      refine (right_ev a (by omega)).bind ?_
      have h1 := tr_length_le a
      have h2 := tr_length_le b
      simp only [if_pos (show (0 : Int) ≤ ((tr a).length : Int) by omega), if_pos (show ((tr a).length : Int) ≤ (a.length : Int) by omega), Option.bind_some, Int.toNat_natCast, tr_take]
      refine (right_ev b (by omega)).bind ?_
      simp only [if_pos (show (0 : Int) ≤ ((tr b).length : Int) by omega), if_pos (show ((tr b).length : Int) ≤ (b.length : Int) by omega), Option.bind_some, Int.toNat_natCast, tr_take, if_pos (show (tr a).length ≤ 70368744177664 by omega)]
      have hm := can_mono (val_nonneg lb) hle
      rw [can_of la, can_of lb] at hm
      have := Sub_loop (tr a) (tr b) (tr_Lim la) (tr_Lim lb) (by omega) hm (by rw [tr_val, tr_val]; exact hle) (tr a).length 0 [] 0 (by omega) rfl Lim.nil (.inl rfl) (by simp [val])
      rw [tr_val, tr_val] at this
      simpa using this
end Go.Proofs.YtfcenlhaepckoaaGreatDoor.P
