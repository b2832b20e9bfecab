import Derived.Test.YtneeeaafhjaooaaGreatDoorDecAq6
import Derived.Test.YtneeeaafhjaooaaGreatDoorP0q6
import Derived.Test.YtneeeaafhjaooaaGreatDoorProg
import Derived.Test.YtneeeaafhjaooaaGreatDoorP8q6
import Derived.Test.YtneeeaafhjaooaaGreatDoorTrimq6
import Derived.Test.YtneeeaafhjaooaaGreatDoorLibsq6
namespace Go.Proofs.YtneeeaafhjaooaaGreatDoor.P
set_option linter.all false
open Go.RowKit Go.Proofs.YtneeeaafhjaooaaGreatDoorW.PrintWords Go.Proofs.YtneeeaafhjaooaaGreatDoorW.PrintLast Go.Proofs.YtneeeaafhjaooaaGreatDoorW.PrintMore

/-- What is trimmed is right, if it isn't too long or too far. -/
theorem right_trim (l : List UInt8) (e : Int) (hd : l.all isDig = true) (hs : trimR (trimL l) ≠ []) :
    rightL (trimR (trimL l)) e = (decide ((trimR (trimL l)).length ≤ 1100) && decide (-100000 ≤ e) && decide (e ≤ 100000)) := by
  have h1 := all_trimR _ (all_trimL l hd)
  have h2 : ((trimR (trimL l)).getD 0 0 == 48) = false := beq_eq_false_iff_ne.2 (trim_head l hs)
  have h3 : ((trimR (trimL l)).getD ((trimR (trimL l)).length - 1) 0 == 48) = false := beq_eq_false_iff_ne.2 (trimR_last _ hs)
  unfold rightL
  rw [if_neg hs, h1, h2, h3]
  simp

section
variable (neg : Bool) (l : List UInt8) (e : Int) (hl : l.length ≤ 10000) (he0 : -9223372036854775808 ≤ e) (he1 : e ≤ 9223372036854775807)
include hl he0 he1

theorem refMake_j4 (hd : l.all isDig = true) : Ev (fun k => tabardref7_Make.j4 k neg (B l) e ((l.length - (trimL l).length : Nat) : Int) ((l.length - (trimL l).length + (trimR (trimL l)).length : Nat) : Int) (((trimL l).length - (trimR (trimL l)).length : Nat) : Int)) (BQ (makeL neg l e)) := by
  have hL := trimL_le l
  have hR := trimR_le (trimL l)
  refine Ev.step (fun k => by rw [tabardref7_Make.j4]) ?_
  unfold makeL
  rw [if_pos hd]
  by_cases hs : trimR (trimL l) = []
  · rw [if_pos hs]
    simp only [hs, List.length_nil, Nat.add_zero, if_true]
    exact Ev.now _
  · rw [if_neg hs, right_trim l _ hd hs]
    have hex : (B l).extract (l.length - (trimL l).length) (l.length - (trimL l).length + (trimR (trimL l)).length) = B (trimR (trimL l)) := by
      rw [B_extract]; congr 1
      obtain ⟨c, hc⟩ := trimL_split l
      obtain ⟨c2, hc2⟩ := trimR_split (trimL l)
      have hcl : l.length - (trimL l).length = c := by have := congrArg List.length hc; simp at this; omega
      rw [hcl]
      have h1 : l = List.replicate c 48 ++ (trimR (trimL l) ++ List.replicate c2 48) := by rw [← hc2]; exact hc
      generalize trimR (trimL l) = S at h1
      rw [h1, ← List.append_assoc, List.take_append_of_le_length (by simp), List.take_of_length_le (by simp), List.drop_append_of_le_length (by simp), List.drop_of_length_le (by simp), List.nil_append]
    have hpos : 0 < (trimR (trimL l)).length := List.length_pos_iff.2 hs
    obtain ⟨a, ha⟩ : ∃ a, l.length - (trimL l).length = a := ⟨_, rfl⟩
    obtain ⟨m, hm⟩ : ∃ m, (trimR (trimL l)).length = m := ⟨_, rfl⟩
    obtain ⟨c, hc⟩ : ∃ c, (trimL l).length - m = c := ⟨_, rfl⟩
    rw [ha] at hex ⊢
    rw [hm] at hex hpos hR ⊢
    rw [hc]
    simp only [if_neg (show ¬ ((a : Int) = ((a + m : Nat) : Int)) by omega)]
    rw [show wrap64 (((a + m : Nat) : Int) - (a : Int)) = (m : Int) by rw [w64 (by omega) (by omega)]; omega]
    rw [show wrap64 ((-100000) - (c : Int)) = -100000 - (c : Int) by rw [w64 (by omega) (by omega)]]
    by_cases h1 : m ≤ 1100
    · simp only [if_neg (show ¬ ((m : Int) > 1100) by omega)]
      by_cases h2 : e > 100000
      · simp only [if_pos h2]
        have : ¬ (e + (c : Int) ≤ 100000) := by omega
        simp only [this, decide_false, Bool.and_false, Bool.false_eq_true, if_false]
        exact Ev.now _
      · simp only [if_neg h2]
        by_cases h3 : e < -100000 - (c : Int)
        · simp only [if_pos h3]
          have : ¬ (-100000 ≤ e + (c : Int)) := by omega
          simp only [this, decide_false, Bool.and_false, Bool.false_and, Bool.false_eq_true, if_false]
          exact Ev.now _
        · simp only [if_neg h3]
          rw [show wrap64 (e + (c : Int)) = e + (c : Int) by rw [w64 (by omega) (by omega)]]
          by_cases h4 : e + (c : Int) > 100000
          · simp only [if_pos h4]
            have : ¬ (e + (c : Int) ≤ 100000) := by omega
            simp only [this, decide_false, Bool.and_false, Bool.false_eq_true, if_false]
            exact Ev.now _
          · simp only [if_neg h4, if_pos (show (0 : Int) ≤ (a : Int) by omega), if_pos (show (a : Int) ≤ ((a + m : Nat) : Int) by omega), B_size, if_pos (show ((a + m : Nat) : Int) ≤ (l.length : Int) by omega), Int.toNat_natCast, hex]
            have q1 : -100000 ≤ e + (c : Int) := by omega
            have q2 : e + (c : Int) ≤ 100000 := by omega
            simp only [h1, q1, q2, decide_true, Bool.and_self, if_true]
            exact Ev.now _
    · simp only [if_pos (show ((m : Int) > 1100) by omega), h1, decide_false, Bool.false_and, Bool.false_eq_true, if_false]
      exact Ev.now _

/-- The noughts at the end, one by one. -/
theorem refMake_l2 (hd : l.all isDig = true) (d : Nat) : ∀ (n : Nat), n ≤ (trimL l).length → n - (trimR (trimL l)).length = d → trimR ((trimL l).take n) = trimR (trimL l) →
    Ev (fun k => tabardref7_Make.l2 k neg (B l) e ((l.length - (trimL l).length : Nat) : Int) ((l.length - (trimL l).length + n : Nat) : Int) (((trimL l).length - n : Nat) : Int)) (BQ (makeL neg l e)) := by
  have hL := trimL_le l
  obtain ⟨cl, hcl⟩ := trimL_split l
  have hcl2 : l.length - (trimL l).length = cl := by have := congrArg List.length hcl; simp at this; omega
  induction d with
  | zero =>
    intro n hn hdn ht
    have hnle : n ≤ (trimR (trimL l)).length := by omega
    have hge : (trimR (trimL l)).length ≤ n := by
      rw [← ht]; exact Nat.le_trans (trimR_le _) (by rw [List.length_take]; omega)
    have hnn : n = (trimR (trimL l)).length := by omega
    have hj := refMake_j4 neg l e hl he0 he1 hd
    rw [← hnn] at hj
    refine Ev.step (fun k => by rw [tabardref7_Make.l2]) ?_
    cases n with
    | zero =>
      simp only [Nat.add_zero, if_neg (show ¬ (((l.length - (trimL l).length : Nat) : Int) > ((l.length - (trimL l).length : Nat) : Int)) by omega)]
      simpa using hj
    | succ n =>
      simp only [if_pos (show (((l.length - (trimL l).length + (n + 1) : Nat) : Int) > ((l.length - (trimL l).length : Nat) : Int)) by omega)]
      rw [show wrap64 (((l.length - (trimL l).length + (n + 1) : Nat) : Int) - 1) = ((l.length - (trimL l).length + n : Nat) : Int) by rw [w64 (by omega) (by omega)]; omega]
      simp only [if_pos (show (0 : Int) ≤ ((l.length - (trimL l).length + n : Nat) : Int) by omega), B_size, if_pos (show ((l.length - (trimL l).length + n : Nat) : Int) < (l.length : Int) by omega), B_bt, Int.toNat_natCast]
      have hat : l.getD (l.length - (trimL l).length + n) 0 = (trimR (trimL l)).getD ((trimR (trimL l)).length - 1) 0 := by
        obtain ⟨c2, hc2⟩ := trimR_split (trimL l)
        have h1 : l = List.replicate cl 48 ++ (trimR (trimL l) ++ List.replicate c2 48) := by rw [← hc2]; exact hcl
        rw [hcl2, ← hnn, Nat.add_sub_cancel]
        have hlt : n < (trimR (trimL l)).length := by omega
        generalize trimR (trimL l) = S at h1 hlt
        rw [h1, List.getD, List.getD, List.getElem?_append_right (by simp), List.length_replicate, Nat.add_sub_cancel_left, List.getElem?_append_left hlt]
      have hne : (trimR (trimL l)) ≠ [] := by intro q; rw [q] at hnn; simp at hnn
      have h48 : ¬ (((l.getD (l.length - (trimL l).length + n) 0).toNat : Int) = 48) := by
        rw [hat]; intro q; exact trimR_last _ hne ((beq_nat _ 48 (by decide)).1 q)
      simp only [if_neg h48]
      exact hj
  | succ d ih =>
    intro n hn hdn ht
    obtain ⟨n, rfl⟩ : ∃ m, n = m + 1 := ⟨n - 1, by omega⟩
    refine Ev.step (fun k => by rw [tabardref7_Make.l2]) ?_
    simp only [if_pos (show (((l.length - (trimL l).length + (n + 1) : Nat) : Int) > ((l.length - (trimL l).length : Nat) : Int)) by omega)]
    rw [show wrap64 (((l.length - (trimL l).length + (n + 1) : Nat) : Int) - 1) = ((l.length - (trimL l).length + n : Nat) : Int) by rw [w64 (by omega) (by omega)]; omega]
    simp only [if_pos (show (0 : Int) ≤ ((l.length - (trimL l).length + n : Nat) : Int) by omega), B_size, if_pos (show ((l.length - (trimL l).length + n : Nat) : Int) < (l.length : Int) by omega), B_bt, Int.toNat_natCast]
    have htk : (trimL l).take (n + 1) = (trimL l).take n ++ [(trimL l).getD n 0] := by
      rw [List.take_succ_eq_append_getElem (by omega), List.getD, List.getElem?_eq_getElem (by omega)]; rfl
    have h48 : (trimL l).getD n 0 = 48 := by
      by_cases q : (trimL l).getD n 0 = 48
      · exact q
      · rw [htk, trimR_of_last _ _ q] at ht
        have := congrArg List.length ht
        simp at this; omega
    have hat : l.getD (l.length - (trimL l).length + n) 0 = 48 := by
      rw [← h48, hcl2]
      have hlt : n < (trimL l).length := by omega
      generalize trimL l = T at hcl hlt
      rw [hcl, List.getD, List.getD, List.getElem?_append_right (by simp), List.length_replicate, Nat.add_sub_cancel_left]
    rw [hat]
    simp only [show (((48 : UInt8).toNat : Int) = 48) from rfl, if_true]
    rw [show wrap64 ((((trimL l).length - (n + 1) : Nat) : Int) + 1) = (((trimL l).length - n : Nat) : Int) by rw [w64 (by omega) (by omega)]; omega]
    exact ih n (by omega) (by omega) (by rw [← ht, htk, h48, trimR_snoc])

theorem refMake_l1 (hd : l.all isDig = true) (d : Nat) : ∀ (i : Nat), i ≤ l.length → (l.length - (trimL l).length) - i = d → trimL (l.drop i) = trimL l →
    Ev (fun k => tabardref7_Make.l1 k neg (B l) e (i : Int)) (BQ (makeL neg l e)) := by
  have hL := trimL_le l
  have hj2 : Ev (fun k => tabardref7_Make.j2 k neg (B l) e ((l.length - (trimL l).length : Nat) : Int)) (BQ (makeL neg l e)) := by
    refine Ev.step (fun k => by rw [tabardref7_Make.j2]) ?_
    have := refMake_l2 neg l e hl he0 he1 hd _ (trimL l).length (Nat.le_refl _) rfl (by rw [List.take_length])
    rw [Nat.sub_self, Nat.sub_add_cancel hL] at this
    simp only [B_size]
    exact this
  induction d with
  | zero =>
    intro i hi hdi ht
    have hle : (trimL l).length ≤ l.length - i := by rw [← ht, ← List.length_drop]; exact trimL_le _
    have hii : i = l.length - (trimL l).length := by omega
    refine Ev.step (fun k => by rw [tabardref7_Make.l1]) ?_
    by_cases hlt : i < l.length
    · simp only [B_size, if_pos (show (i : Int) < (l.length : Int) by omega), if_pos (show (0 : Int) ≤ (i : Int) by omega), B_bt, Int.toNat_natCast]
      have hne : ¬ (((l.getD i 0).toNat : Int) = 48) := by
        intro q
        have h48 := (beq_nat _ 48 (by decide)).1 q
        rw [drop_getD l i hlt] at ht
        rw [show l.getD i 0 = 48 from h48, trimL_cons] at ht
        have h1 : (trimL l).length ≤ l.length - (i + 1) := by rw [← ht, ← List.length_drop]; exact trimL_le _
        omega
      simp only [if_neg hne]
      rw [hii]; exact hj2
    · simp only [B_size, if_neg (show ¬ ((i : Int) < (l.length : Int)) by omega)]
      rw [hii]; exact hj2
  | succ d ih =>
    intro i hi hdi ht
    have hlt : i < l.length := by omega
    refine Ev.step (fun k => by rw [tabardref7_Make.l1]) ?_
    simp only [B_size, if_pos (show (i : Int) < (l.length : Int) by omega), if_pos (show (0 : Int) ≤ (i : Int) by omega), B_bt, Int.toNat_natCast]
    have h48 : l.getD i 0 = 48 := by
      by_cases q : l.getD i 0 = 48
      · exact q
      · rw [drop_getD l i hlt, trimL_of_head _ _ q] at ht
        have := congrArg List.length ht
        simp at this; omega
    rw [h48]
    simp only [show (((48 : UInt8).toNat : Int) = 48) from rfl, if_true]
    rw [show wrap64 ((i : Int) + 1) = ((i + 1 : Nat) : Int) by rw [w64 (by omega) (by omega)]; rfl]
    exact ih (i + 1) hlt (by omega) (by rw [← ht, drop_getD l i hlt, h48, trimL_cons])

theorem refMake_l0 (d : Nat) : ∀ (i : Nat), i ≤ l.length → l.length - i = d → (l.take i).all isDig = true →
    Ev (fun k => tabardref7_Make.l0 k neg (B l) e (i : Int)) (BQ (makeL neg l e)) := by
  induction d with
  | zero =>
    intro i hi hdi ht
    have hii : i = l.length := by omega
    rw [hii, List.take_length] at ht
    refine Ev.step (fun k => by rw [tabardref7_Make.l0]) ?_
    simp only [B_size, if_neg (show ¬ ((i : Int) < (l.length : Int)) by omega)]
    exact refMake_l1 neg l e hl he0 he1 ht _ 0 (Nat.zero_le _) rfl rfl
  | succ d ih =>
    intro i hi hdi ht
    have hlt : i < l.length := by omega
    refine Ev.step (fun k => by rw [tabardref7_Make.l0]) ?_
    simp only [B_size, if_pos (show (i : Int) < (l.length : Int) by omega), if_pos (show (0 : Int) ≤ (i : Int) by omega), B_bt, Int.toNat_natCast, refdigit, Option.bind_some]
    cases hb : isDig (l.getD i 0) with
    | true =>
      simp only [if_true]
      rw [show wrap64 ((i : Int) + 1) = ((i + 1 : Nat) : Int) by rw [w64 (by omega) (by omega)]; rfl]
      refine ih (i + 1) hlt (by omega) ?_
      rw [List.take_succ_eq_append_getElem hlt, List.all_append, ht]
      rw [List.getD, List.getElem?_eq_getElem hlt] at hb
      simpa using hb
    | false =>
      have hall : l.all isDig = false := by
        rw [List.all_eq_false]
        refine ⟨l.getD i 0, ?_, by rw [hb]; simp⟩
        rw [List.getD, List.getElem?_eq_getElem hlt]; exact List.getElem_mem hlt
      simp only [Bool.false_eq_true, if_false, makeL, hall]
      exact Ev.now _

theorem refMake : Ev (fun k => tabardref7_Make.f k neg (B l) e) (BQ (makeL neg l e)) :=
  refMake_l0 neg l e hl he0 he1 _ 0 (Nat.zero_le _) rfl rfl
end
end Go.Proofs.YtneeeaafhjaooaaGreatDoor.P
