import Derived.Test.YtneeeaafhjaooaaGreatDoorDecIq6
import Derived.Test.YtneeeaafhjaooaaGreatDoorDecDq6
import Derived.Test.YtneeeaafhjaooaaGreatDoorDecAq6
import Derived.Test.YtneeeaafhjaooaaGreatDoorP0q6
import Derived.Test.YtneeeaafhjaooaaGreatDoorProg
import Derived.Test.YtneeeaafhjaooaaGreatDoorP8q6
import Derived.Test.YtneeeaafhjaooaaGreatDoorP9q6
import Derived.Test.YtneeeaafhjaooaaGreatDoorDecPq6
import Derived.Test.YtneeeaafhjaooaaGreatDoorLibsq6
set_option linter.unusedSimpArgs false
set_option linter.unusedVariables false
namespace Go.Proofs.YtneeeaafhjaooaaGreatDoor.P
set_option linter.all false
open Go.RowKit Go.Proofs.YtneeeaafhjaooaaGreatDoorW.PrintWords Go.Proofs.YtneeeaafhjaooaaGreatDoorW.PrintLast Go.Proofs.YtneeeaafhjaooaaGreatDoorW.PrintMore

theorem at_eqJ (neg : Bool) (l : List UInt8) (e : Int) (hl : l.length ≤ 1100) (h0 : l ≠ []) (he0 : -100000 ≤ e) (he1 : e ≤ 100000) (p : Int) (hpe : p = l.length + e) (i : Nat) (hi : i ≤ 2000) :
    tabardref7_at.f neg (B l) e (wrap64 ((wrap64 (p - 1)) - (i : Int))) = some ((l.getD i 48).toNat : Int) := by
  have hpos : 0 < l.length := List.length_pos_iff.2 h0
  unfold tabardref7_at.f
  rw [show wrap64 (p - 1) = p - 1 by rw [w64 (by omega) (by omega)], w64 (x := p - 1 - (i : Int)) (by omega) (by omega), B_size,
    w64 (x := (l.length : Int) - 1) (by omega) (by omega), w64 (x := (l.length : Int) - 1 + e) (by omega) (by omega), w64 (by omega) (by omega),
    show (l.length : Int) - 1 + e - (p - 1 - (i : Int)) = (i : Int) by omega, if_neg (by omega)]
  by_cases h : i < l.length
  · rw [if_neg (by omega), if_pos (by omega), if_pos (by omega), B_bt, Int.toNat_natCast, List.getD, List.getD, List.getElem?_eq_getElem h]; rfl
  · rw [if_pos (by omega), List.getD, List.getElem?_eq_none (by omega)]; rfl

section
variable (n1 : Bool) (l1 : List UInt8) (e1 : Int) (n2 : Bool) (l2 : List UInt8) (e2 : Int) (h1 : rightL l1 e1 = true) (h2 : rightL l2 e2 = true)
include h1 h2

theorem refsize_l0 (a1 : l1 ≠ []) (a2 : l2 ≠ []) (hp : (l1.length : Int) + e1 = l2.length + e2) (d : Nat) : ∀ i : Nat, i ≤ 1100 → max l1.length l2.length - i = d →
    Ev (fun k => tabardref7_size.l0 k ((l1.length : Int) + e1) (i : Int) n1 (B l1) e1 n2 (B l2) e2) (padL (l1.drop i) (l2.drop i)) := by
  obtain ⟨_, q1, x1, y1, _⟩ := right_facts h1
  obtain ⟨_, q2, x2, y2, _⟩ := right_facts h2
  induction d with
  | zero =>
    intro i hi hd
    rw [List.drop_of_length_le (by omega), List.drop_of_length_le (by omega), padL_nn]
    refine Ev.step (fun k => by rw [tabardref7_size.l0]) ?_
    simp only [B_size, if_neg (show ¬ ((i : Int) < (l1.length : Int)) by omega), decide_eq_false (show ¬ ((i : Int) < (l2.length : Int)) by omega)]
    refine Ev.step (fun k => by rw [tabardref7_size.j2]) ?_
    simp only [Bool.false_eq_true, if_false]
    exact Ev.now _
  | succ d ih =>
    intro i hi hd
    have hne : l1.drop i ≠ [] ∨ l2.drop i ≠ [] := by
      by_cases q : i < l1.length
      · left; intro z; have := List.drop_eq_nil_iff.1 z; omega
      · right; intro z; have := List.drop_eq_nil_iff.1 z; omega
    have hg : ∀ l : List UInt8, (l.drop i).getD 0 48 = l.getD i 48 := by intro l; rw [List.getD, List.getD, List.getElem?_drop, Nat.add_zero]
    have hj : ∀ b : Bool, b = true → Ev (fun k => tabardref7_size.j2 k ((l1.length : Int) + e1) (i : Int) b n1 (B l1) e1 n2 (B l2) e2) (padL (l1.drop i) (l2.drop i)) := by
      rintro b rfl
      refine Ev.step (fun k => by rw [tabardref7_size.j2]) ?_
      rw [padL_step _ _ hne, hg, hg]
      simp only [if_true, at_eqJ n1 l1 e1 q1 a1 x1 y1 _ rfl i (by omega), at_eqJ n2 l2 e2 q2 a2 x2 y2 _ hp i (by omega), Option.bind_some]
      by_cases c1 : (l1.getD i 48).toNat < (l2.getD i 48).toNat
      · simp only [if_pos (show (((l1.getD i 48).toNat : Int) < ((l2.getD i 48).toNat : Int)) by omega), if_pos c1]; exact Ev.now _
      · simp only [if_neg (show ¬ (((l1.getD i 48).toNat : Int) < ((l2.getD i 48).toNat : Int)) by omega), if_neg c1]
        by_cases c2 : (l1.getD i 48).toNat > (l2.getD i 48).toNat
        · simp only [if_pos (show (((l1.getD i 48).toNat : Int) > ((l2.getD i 48).toNat : Int)) by omega), if_pos c2]; exact Ev.now _
        · simp only [if_neg (show ¬ (((l1.getD i 48).toNat : Int) > ((l2.getD i 48).toNat : Int)) by omega), if_neg c2]
          rw [show wrap64 ((i : Int) + 1) = ((i + 1 : Nat) : Int) by rw [w64 (by omega) (by omega)]; rfl]
          have := ih (i + 1) (by omega) (by omega)
          rw [List.tail_drop, List.tail_drop]
          exact this
    refine Ev.step (fun k => by rw [tabardref7_size.l0]) ?_
    simp only [B_size]
    by_cases hlt : i < l1.length
    · simp only [if_pos (show ((i : Int) < (l1.length : Int)) by omega)]
      exact hj true rfl
    · simp only [if_neg (show ¬ ((i : Int) < (l1.length : Int)) by omega)]
      exact hj _ (decide_eq_true (by omega))

theorem refsize_eq : Ev (fun k => tabardref7_size.f k n1 (B l1) e1 n2 (B l2) e2) (sizeL l1 e1 l2 e2) := by
  obtain ⟨d1, q1, x1, y1, _⟩ := right_facts h1
  obtain ⟨d2, q2, x2, y2, _⟩ := right_facts h2
  unfold tabardref7_size.f sizeL
  simp only [B_size]
  have hz : l1 = [] ∨ l2 = [] → Ev (fun k => tabardref7_size.j0 k true n1 (B l1) e1 n2 (B l2) e2) (Lib.compareInt l1.length l2.length) := by
    intro hor
    refine Ev.step (fun k => by rw [tabardref7_size.j0]) ?_
    simp only [if_true, B_size]
    unfold Lib.compareInt
    by_cases a1 : l1 = []
    · subst a1
      simp only [List.length_nil, if_neg (show ¬ (((0 : Nat) : Int) > 0) by omega)]
      by_cases a2 : l2 = []
      · subst a2; simp only [List.length_nil]; exact Ev.now _
      · have := List.length_pos_iff.2 a2
        simp only [if_pos (show ((l2.length : Int) > 0) by omega), if_pos (show (((0 : Nat) : Int) < (l2.length : Int)) by omega)]
        exact Ev.now _
    · have a2 : l2 = [] := hor.elim (fun q => absurd q a1) id
      subst a2
      have := List.length_pos_iff.2 a1
      simp only [List.length_nil, if_pos (show ((l1.length : Int) > 0) by omega), if_neg (show ¬ ((l1.length : Int) < ((0 : Nat) : Int)) by omega), if_pos (show ((l1.length : Int) > ((0 : Nat) : Int)) by omega)]
      exact Ev.now _
  by_cases a1 : l1 = []
  · have hz := hz (.inl a1)
    have : ((l1.length : Int) = 0) := by rw [a1]; rfl
    simp only [if_pos this, if_pos (show l1 = [] ∨ l2 = [] from .inl a1)]
    exact hz
  · have hp1 := List.length_pos_iff.2 a1
    simp only [if_neg (show ¬ ((l1.length : Int) = 0) by omega)]
    by_cases a2 : l2 = []
    · have hz := hz (.inr a2)
      rw [show ((l2.length : Int) == 0) = true from by rw [a2]; rfl]
      simp only [if_pos (show l1 = [] ∨ l2 = [] from .inr a2)]
      exact hz
    · have hp2 := List.length_pos_iff.2 a2
      rw [show ((l2.length : Int) == 0) = false from by rw [beq_eq_false_iff_ne]; omega]
      simp only [if_neg (show ¬ (l1 = [] ∨ l2 = []) from fun q => q.elim a1 a2)]
      refine Ev.step (fun k => by rw [tabardref7_size.j0]) ?_
      simp only [Bool.false_eq_true, if_false]
      refine Ev.bind (refPoint_eq n1 l1 e1 (by omega)) ?_
      refine Ev.bind (refPoint_eq n2 l2 e2 (by omega)) ?_
      simp only [if_pos h1, if_pos h2]
      unfold Lib.compareInt
      by_cases hp : (l1.length : Int) + e1 = l2.length + e2
      · simp only [if_pos hp, if_neg (show ¬ ((l1.length : Int) + e1 < l2.length + e2) by omega), if_neg (show ¬ ((l1.length : Int) + e1 > l2.length + e2) by omega), if_true]
        have := refsize_l0 n1 l1 e1 n2 l2 e2 h1 h2 a1 a2 hp _ 0 (by omega) rfl
        rw [List.drop_zero, List.drop_zero, padL_bytes l1 l2 d1 d2 (fun _ => (right_ends h1 a1).2) (fun _ => (right_ends h2 a2).2)] at this
        exact this
      · simp only [if_neg hp]
        by_cases hlt : (l1.length : Int) + e1 < l2.length + e2
        · simp only [if_pos hlt]; exact Ev.now _
        · simp only [if_neg hlt, if_pos (show ((l1.length : Int) + e1 > l2.length + e2) by omega)]; exact Ev.now _
end

theorem compareInt_neg (x y : Int) : Lib.compareInt y x = -Lib.compareInt x y := by
  unfold Lib.compareInt
  by_cases h1 : x < y
  · rw [if_neg (by omega), if_pos (by omega), if_pos h1]; rfl
  · by_cases h2 : x > y
    · rw [if_pos (by omega), if_neg h1, if_pos h2]
    · rw [if_neg (by omega), if_neg (by omega), if_neg h1, if_neg h2]; rfl
theorem compareBytes_neg : ∀ a b : List UInt8, Lib.compareBytes b a = -Lib.compareBytes a b
  | [], [] => rfl
  | [], _ :: _ => rfl
  | _ :: _, [] => rfl
  | a :: aa, b :: bs => by
    have ih := compareBytes_neg aa bs
    unfold Lib.compareBytes
    by_cases h1 : a < b
    · have h2 : ¬ b < a := by rw [UInt8.lt_iff_toNat_lt] at h1 ⊢; omega
      rw [if_neg h2, if_pos h1, if_pos h1]; rfl
    · by_cases h2 : b < a
      · rw [if_pos h2, if_neg h1, if_pos h2]
      · rw [if_neg h2, if_neg h1, if_neg h1, if_neg h2, ih]
theorem sizeL_neg (l1 : List UInt8) (e1 : Int) (l2 : List UInt8) (e2 : Int) : sizeL l2 e2 l1 e1 = -sizeL l1 e1 l2 e2 := by
  unfold sizeL
  by_cases h : l1 = [] ∨ l2 = []
  · rw [if_pos h, if_pos h.symm, compareInt_neg]
  · rw [if_neg h, if_neg (fun q => h q.symm), compareInt_neg ((l1.length : Int) + e1), compareBytes_neg l1 l2]
    by_cases h2 : Lib.compareInt ((l1.length : Int) + e1) (l2.length + e2) = 0
    · rw [if_pos h2, if_pos (by omega)]
    · rw [if_neg h2, if_neg (by omega)]
theorem sizeL_nil (l1 : List UInt8) (e1 : Int) (l2 : List UInt8) (e2 : Int) (h : l1 = [] ∨ l2 = []) : sizeL l1 e1 l2 e2 = Lib.compareInt l1.length l2.length := if_pos h

theorem refCmp (n1 : Bool) (l1 : List UInt8) (e1 : Int) (n2 : Bool) (l2 : List UInt8) (e2 : Int) (hl1 : l1.length ≤ 9223372036854775806) (hl2 : l2.length ≤ 9223372036854775806) :
    Ev (fun k => tabardref7_Cmp.f k n1 (B l1) e1 n2 (B l2) e2) (cmpL n1 l1 e1 n2 l2 e2) := by
  unfold tabardref7_Cmp.f cmpL
  refine Ev.bind (refRight n1 l1 e1 hl1) ?_
  refine Ev.bind (refRight n2 l2 e2 hl2) ?_
  have hbad : Ev (fun k => tabardref7_Cmp.j0 k true n1 (B l1) e1 n2 (B l2) e2) 0 := by
    refine Ev.step (fun k => by rw [tabardref7_Cmp.j0]) ?_
    simp only [if_true]; exact Ev.now _
  by_cases h1 : rightL l1 e1 = true
  · simp only [if_pos h1]
    by_cases h2 : rightL l2 e2 = true
    · rw [show (!rightL l2 e2) = false from by rw [h2]; rfl]
      simp only [if_pos (show rightL l1 e1 = true ∧ rightL l2 e2 = true from ⟨h1, h2⟩)]
      have hj2 : Ev (fun k => tabardref7_Cmp.j2 k (n1 && decide ((l1.length : Int) > 0)) (n2 && decide ((l2.length : Int) > 0)) n1 (B l1) e1 n2 (B l2) e2)
          (if sgnL n1 l1 = sgnL n2 l2 ∧ sgnL n1 l1 ≠ 0 then sgnL n1 l1 * sizeL l1 e1 l2 e2 else Lib.compareInt (sgnL n1 l1) (sgnL n2 l2)) := by
        have hf := refsize_eq n1 l1 e1 n2 l2 e2 h1 h2
        have hb := refsize_eq n2 l2 e2 n1 l1 e1 h2 h1
        rw [sizeL_neg l1 e1 l2 e2] at hb
        have cn0 : ∀ n : Nat, 0 < n → Lib.compareInt (n : Int) 0 = 1 := by intro n h; unfold Lib.compareInt; rw [if_neg (by omega), if_pos (by omega)]
        have c0n : ∀ n : Nat, 0 < n → Lib.compareInt 0 (n : Int) = -1 := by intro n h; unfold Lib.compareInt; rw [if_pos (by omega)]
        obtain ⟨x1, hx1⟩ : ∃ x, (n1 && decide ((l1.length : Int) > 0)) = x := ⟨_, rfl⟩
        obtain ⟨x2, hx2⟩ : ∃ x, (n2 && decide ((l2.length : Int) > 0)) = x := ⟨_, rfl⟩
        rw [hx1, hx2]
        have sg : ∀ (n : Bool) (l : List UInt8) (x : Bool), (n && decide ((l.length : Int) > 0)) = x → (x = true → l ≠ [] ∧ sgnL n l = -1) ∧ (x = false → sgnL n l = if l = [] then 0 else 1) := by
          intro n l x hx
          by_cases a : l = []
          · have : x = false := by rw [← hx, a]; simp
            subst this
            exact ⟨(fun q => absurd q (by simp)), fun _ => by unfold sgnL; rw [if_pos a, if_pos a]⟩
          · have hp := List.length_pos_iff.2 a
            rw [decide_eq_true (show ((l.length : Int) > 0) by omega), Bool.and_true] at hx
            subst hx
            exact ⟨fun q => ⟨a, by unfold sgnL; rw [if_neg a, if_pos q]⟩, fun q => by unfold sgnL; rw [if_neg a, if_neg a, if_neg (by rw [q]; simp)]⟩
        obtain ⟨t1, f1⟩ := sg n1 l1 x1 hx1
        obtain ⟨t2, f2⟩ := sg n2 l2 x2 hx2
        refine Ev.step (fun k => by rw [tabardref7_Cmp.j2]) ?_
        cases x1 with
        | true =>
          obtain ⟨a1, s1⟩ := t1 rfl
          cases x2 with
          | true =>
            obtain ⟨a2, s2⟩ := t2 rfl
            have hc : sgnL n1 l1 = sgnL n2 l2 ∧ sgnL n1 l1 ≠ 0 := by rw [s1, s2]; exact ⟨rfl, by decide⟩
            rw [if_pos hc, s1, show (-1 : Int) * sizeL l1 e1 l2 e2 = -sizeL l1 e1 l2 e2 by omega]
            simp only [bne_self_eq_false, Bool.false_eq_true, if_false, if_true]
            exact Ev.bind hb (Ev.now _)
          | false =>
            have s2 := f2 rfl
            have hne : ¬ (sgnL n1 l1 = sgnL n2 l2 ∧ sgnL n1 l1 ≠ 0) := by rw [s1, s2]; intro q; have := q.1; split at this <;> omega
            rw [if_neg hne, s1, s2, show Lib.compareInt (-1) (if l2 = [] then 0 else 1) = -1 by split <;> rfl]
            exact Ev.now _
        | false =>
          have s1 := f1 rfl
          cases x2 with
          | true =>
            obtain ⟨a2, s2⟩ := t2 rfl
            have hne : ¬ (sgnL n1 l1 = sgnL n2 l2 ∧ sgnL n1 l1 ≠ 0) := by rw [s1, s2]; intro q; have := q.1; split at this <;> omega
            rw [if_neg hne, s1, s2, show Lib.compareInt (if l1 = [] then 0 else 1) (-1) = 1 by split <;> rfl]
            exact Ev.now _
          | false =>
            have s2 := f2 rfl
            simp only [bne_self_eq_false, Bool.false_eq_true, if_false]
            have hv : (if sgnL n1 l1 = sgnL n2 l2 ∧ sgnL n1 l1 ≠ 0 then sgnL n1 l1 * sizeL l1 e1 l2 e2 else Lib.compareInt (sgnL n1 l1) (sgnL n2 l2)) = sizeL l1 e1 l2 e2 := by
              rw [s1, s2]
              by_cases a1 : l1 = []
              · rw [sizeL_nil l1 e1 l2 e2 (.inl a1), if_pos a1, if_neg (fun q => q.2 rfl), show (l1.length : Int) = 0 by rw [a1]; rfl]
                by_cases a2 : l2 = []
                · rw [if_pos a2, show (l2.length : Int) = 0 by rw [a2]; rfl]
                · rw [if_neg a2, c0n _ (List.length_pos_iff.2 a2)]; rfl
              · rw [if_neg a1]
                by_cases a2 : l2 = []
                · rw [sizeL_nil l1 e1 l2 e2 (.inr a2), if_pos a2, if_neg (by decide), show (l2.length : Int) = 0 by rw [a2]; rfl, cn0 _ (List.length_pos_iff.2 a1)]; rfl
                · rw [if_neg a2, if_pos ⟨rfl, by decide⟩, Int.one_mul]
            rw [hv]
            exact Ev.bind hf (Ev.now _)
      have hj1 : Ev (fun k => tabardref7_Cmp.j1 k (n1 && decide ((l1.length : Int) > 0)) n1 (B l1) e1 n2 (B l2) e2)
          (if sgnL n1 l1 = sgnL n2 l2 ∧ sgnL n1 l1 ≠ 0 then sgnL n1 l1 * sizeL l1 e1 l2 e2 else Lib.compareInt (sgnL n1 l1) (sgnL n2 l2)) := by
        refine Ev.step (fun k => by rw [tabardref7_Cmp.j1]) ?_
        cases n2 with
        | true => simpa only [if_true, B_size, Bool.true_and] using hj2
        | false => simpa only [Bool.false_eq_true, if_false, B_size, Bool.false_and] using hj2
      refine Ev.step (fun k => by rw [tabardref7_Cmp.j0]) ?_
      cases n1 with
      | true => simpa only [if_true, B_size, Bool.true_and, Bool.false_eq_true, if_false] using hj1
      | false => simpa only [Bool.false_eq_true, if_false, B_size, Bool.false_and] using hj1
    · rw [show (!rightL l2 e2) = true from by rw [Bool.eq_false_iff.2 h2]; rfl]
      simp only [if_neg (show ¬ (rightL l1 e1 = true ∧ rightL l2 e2 = true) from fun q => h2 q.2)]
      exact hbad
  · simp only [if_neg h1, if_neg (show ¬ (rightL l1 e1 = true ∧ rightL l2 e2 = true) from fun q => h1 q.1)]
    exact hbad
end Go.Proofs.YtneeeaafhjaooaaGreatDoor.P
