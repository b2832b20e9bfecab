import Derived.Test.YtneeeaafhjaooaaGreatDoorDecDq6
import Derived.Test.YtneeeaafhjaooaaGreatDoorDecAq6
import Derived.Test.YtneeeaafhjaooaaGreatDoorP0q6
import Derived.Test.YtneeeaafhjaooaaGreatDoorProg
import Derived.Test.YtneeeaafhjaooaaGreatDoorElibq6
import Derived.Test.YtneeeaafhjaooaaGreatDoorShelfq6
import Derived.Test.YtneeeaafhjaooaaGreatDoorP1q6
import Derived.Test.YtneeeaafhjaooaaGreatDoorP2q6
import Derived.Test.YtneeeaafhjaooaaGreatDoorLibsq6
set_option linter.unusedSimpArgs false
set_option linter.unusedVariables false
namespace Go.Proofs.YtneeeaafhjaooaaGreatDoor.P
set_option linter.all false
open Go.RowKit Go.Proofs.YtneeeaafhjaooaaGreatDoorW.PrintWords Go.Proofs.YtneeeaafhjaooaaGreatDoorW.PrintLast Go.Proofs.YtneeeaafhjaooaaGreatDoorW.PrintMore

def sgnL (neg : Bool) (l : List UInt8) : Int := if l = [] then 0 else if neg = true then -1 else 1
def sizeL (l1 : List UInt8) (e1 : Int) (l2 : List UInt8) (e2 : Int) : Int :=
  if l1 = [] ∨ l2 = [] then Lib.compareInt l1.length l2.length
  else if Lib.compareInt (l1.length + e1) (l2.length + e2) = 0 then Lib.compareBytes l1 l2 else Lib.compareInt (l1.length + e1) (l2.length + e2)
def cmpL (n1 : Bool) (l1 : List UInt8) (e1 : Int) (n2 : Bool) (l2 : List UInt8) (e2 : Int) : Int :=
  if rightL l1 e1 = true ∧ rightL l2 e2 = true then
    (if sgnL n1 l1 = sgnL n2 l2 ∧ sgnL n1 l1 ≠ 0 then sgnL n1 l1 * sizeL l1 e1 l2 e2 else Lib.compareInt (sgnL n1 l1) (sgnL n2 l2))
  else 0

theorem cmpI_vals (x y : Int) : Lib.compareInt x y = -1 ∨ Lib.compareInt x y = 0 ∨ Lib.compareInt x y = 1 := by
  unfold Lib.compareInt; split
  · exact .inl rfl
  · split
    · exact .inr (.inr rfl)
    · exact .inr (.inl rfl)
theorem cmpB_vals : ∀ a b : List UInt8, Lib.compareBytes a b = -1 ∨ Lib.compareBytes a b = 0 ∨ Lib.compareBytes a b = 1
  | [], [] => .inr (.inl rfl)
  | [], _ :: _ => .inl rfl
  | _ :: _, [] => .inr (.inr rfl)
  | a :: aa, b :: bs => by
    unfold Lib.compareBytes; split
    · exact .inl rfl
    · split
      · exact .inr (.inr rfl)
      · exact cmpB_vals aa bs
theorem sizeL_vals (l1 : List UInt8) (e1 : Int) (l2 : List UInt8) (e2 : Int) : sizeL l1 e1 l2 e2 = -1 ∨ sizeL l1 e1 l2 e2 = 0 ∨ sizeL l1 e1 l2 e2 = 1 := by
  unfold sizeL; split
  · exact cmpI_vals _ _
  · split
    · exact cmpB_vals _ _
    · exact cmpI_vals _ _

theorem sign_eq (neg : Bool) (l : List UInt8) (e : Int) : decimal_sign.f neg (B l) e = some (sgnL neg l) := by
  unfold decimal_sign.f sgnL
  rw [B_toList]
  split
  · rfl
  · cases neg <;> rfl

theorem or_eq (a b : Int) : Ev (fun k => cmp_Or_int.f k [a, b]) (if a = 0 then b else a) := by
  unfold cmp_Or_int.f
  have w1 : wrap64 (0 + 1) = 1 := w64 (by omega) (by omega)
  have w2 : wrap64 (1 + 1) = 2 := w64 (by omega) (by omega)
  refine Ev.step (fun k => by rw [cmp_Or_int.l0]) ?_
  have r0 : rd [a, b] 0 = a := rfl
  have r1 : rd [a, b] 1 = b := rfl
  simp only [List.length_cons, List.length_nil, if_pos (show (0 : Int) < ((0 + 1 + 1 : Nat) : Int) by omega), if_pos (show (0 : Int) ≤ 0 by omega), r0, w1]
  by_cases ha : a = 0
  · simp only [if_pos ha]
    refine Ev.step (fun k => by rw [cmp_Or_int.l0]) ?_
    simp only [List.length_cons, List.length_nil, if_pos (show (1 : Int) < ((0 + 1 + 1 : Nat) : Int) by omega), if_pos (show (0 : Int) ≤ 1 by omega), r1, w2]
    by_cases hb : b = 0
    · simp only [if_pos hb]
      refine Ev.step (fun k => by rw [cmp_Or_int.l0]) ?_
      simp only [if_neg (show ¬ ((2 : Int) < ((0 + 1 + 1 : Nat) : Int)) by omega), hb]
      exact Ev.now _
    · simp only [if_neg hb]; exact Ev.now _
  · simp only [if_neg ha]; exact Ev.now _

theorem size_eq (n1 : Bool) (l1 : List UInt8) (e1 : Int) (n2 : Bool) (l2 : List UInt8) (e2 : Int) (h1 : rightL l1 e1 = true) (h2 : rightL l2 e2 = true) :
    Ev (fun k => decimal_size.f k n1 (B l1) e1 n2 (B l2) e2) (sizeL l1 e1 l2 e2) := by
  obtain ⟨_, q1, _⟩ := right_facts h1
  obtain ⟨_, q2, _⟩ := right_facts h2
  unfold decimal_size.f sizeL
  simp only [B_toList]
  by_cases a1 : l1 = []
  · simp only [if_pos a1, if_pos (show l1 = [] ∨ l2 = [] from .inl a1)]
    refine Ev.step (fun k => by rw [decimal_size.j0]) ?_
    simp only [if_true, cmp_Compare_int.f, Option.bind_some, B_size]
    exact Ev.now _
  · simp only [if_neg a1]
    by_cases a2 : l2 = []
    · rw [show (l2 == []) = true from by rw [a2]; rfl]
      simp only [if_pos (show l1 = [] ∨ l2 = [] from .inr a2)]
      refine Ev.step (fun k => by rw [decimal_size.j0]) ?_
      simp only [if_true, cmp_Compare_int.f, Option.bind_some, B_size]
      exact Ev.now _
    · rw [show (l2 == []) = false from by simpa using a2]
      simp only [if_neg (show ¬ (l1 = [] ∨ l2 = []) from fun q => q.elim a1 a2)]
      refine Ev.step (fun k => by rw [decimal_size.j0]) ?_
      simp only [Bool.false_eq_true, if_false, Point_eq n1 l1 e1 (by omega), Point_eq n2 l2 e2 (by omega), if_pos h1, if_pos h2, Option.bind_some, cmp_Compare_int.f, strings_Compare.f, B_data]
      refine Ev.bind (or_eq _ _) ?_
      exact Ev.now _

theorem Cmp_eq (n1 : Bool) (l1 : List UInt8) (e1 : Int) (n2 : Bool) (l2 : List UInt8) (e2 : Int) (hl1 : l1.length ≤ 9223372036854775806) (hl2 : l2.length ≤ 9223372036854775806) :
    Ev (fun k => decimal_Cmp.f k n1 (B l1) e1 n2 (B l2) e2) (cmpL n1 l1 e1 n2 l2 e2) := by
  unfold decimal_Cmp.f cmpL
  have hbad : Ev (fun k => decimal_Cmp.j0 k true n1 (B l1) e1 n2 (B l2) e2) 0 := by
    refine Ev.step (fun k => by rw [decimal_Cmp.j0]) ?_
    simp only [if_true]; exact Ev.now _
  simp only [Right_eq n1 l1 e1 (by omega), Right_eq n2 l2 e2 (by omega), Option.bind_some]
  by_cases h1 : rightL l1 e1 = true
  · simp only [if_pos h1]
    by_cases h2 : rightL l2 e2 = true
    · rw [show (!rightL l2 e2) = false from by rw [h2]; rfl]
      simp only [if_pos (show rightL l1 e1 = true ∧ rightL l2 e2 = true from ⟨h1, h2⟩)]
      refine Ev.step (fun k => by rw [decimal_Cmp.j0]) ?_
      simp only [Bool.false_eq_true, if_false, sign_eq, Option.bind_some]
      have hend : Ev (fun k => decimal_Cmp.j1 k (sgnL n1 l1) (sgnL n2 l2) true n1 (B l1) e1 n2 (B l2) e2) (Lib.compareInt (sgnL n1 l1) (sgnL n2 l2)) := by
        refine Ev.step (fun k => by rw [decimal_Cmp.j1]) ?_
        simp only [if_true, cmp_Compare_int.f, Option.bind_some]
        exact Ev.now _
      by_cases hs : sgnL n1 l1 = sgnL n2 l2
      · simp only [if_pos hs]
        by_cases h0 : sgnL n1 l1 = 0
        · rw [show (sgnL n1 l1 == 0) = true from by rw [h0]; rfl]
          simp only [if_neg (show ¬ (sgnL n1 l1 = sgnL n2 l2 ∧ sgnL n1 l1 ≠ 0) from fun q => q.2 h0)]
          exact hend
        · rw [show (sgnL n1 l1 == 0) = false from by simpa using h0]
          simp only [if_pos (show (sgnL n1 l1 = sgnL n2 l2 ∧ sgnL n1 l1 ≠ 0) from ⟨hs, h0⟩)]
          refine Ev.step (fun k => by rw [decimal_Cmp.j1]) ?_
          simp only [Bool.false_eq_true, if_false, sign_eq, Option.bind_some]
          refine Ev.bind (size_eq n1 l1 e1 n2 l2 e2 h1 h2) ?_
          have hw : wrap64 (sgnL n1 l1 * sizeL l1 e1 l2 e2) = sgnL n1 l1 * sizeL l1 e1 l2 e2 := by
            have a1 : sgnL n1 l1 = -1 ∨ sgnL n1 l1 = 1 := by
              unfold sgnL at h0 ⊢; split
              · rename_i q; rw [if_pos q] at h0; exact absurd rfl h0
              · cases n1
                · exact .inr rfl
                · exact .inl rfl
            rcases a1 with a1 | a1 <;> rcases sizeL_vals l1 e1 l2 e2 with a2 | a2 | a2 <;> rw [a1, a2] <;> exact w64 (by omega) (by omega)
          rw [hw]
          exact Ev.now _
      · simp only [if_neg hs, if_neg (show ¬ (sgnL n1 l1 = sgnL n2 l2 ∧ sgnL n1 l1 ≠ 0) from fun q => hs q.1)]
        exact hend
    · rw [show (!rightL l2 e2) = true from by rw [Bool.eq_false_iff.2 h2]; rfl]
      simp only [if_neg (show ¬ (rightL l1 e1 = true ∧ rightL l2 e2 = true) from fun q => h2 q.2)]
      exact hbad
  · simp only [if_neg h1, if_neg (show ¬ (rightL l1 e1 = true ∧ rightL l2 e2 = true) from fun q => h1 q.1)]
    exact hbad
end Go.Proofs.YtneeeaafhjaooaaGreatDoor.P
