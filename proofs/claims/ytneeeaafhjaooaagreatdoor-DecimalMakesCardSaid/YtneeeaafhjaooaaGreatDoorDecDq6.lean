import Derived.Test.YtneeeaafhjaooaaGreatDoorDecCq6
import Derived.Test.YtneeeaafhjaooaaGreatDoorDecAq6
import Derived.Test.YtneeeaafhjaooaaGreatDoorP0q6
import Derived.Test.YtneeeaafhjaooaaGreatDoorProg
import Derived.Test.YtneeeaafhjaooaaGreatDoorP1q6
import Derived.Test.YtneeeaafhjaooaaGreatDoorP3q6
import Derived.Test.YtneeeaafhjaooaaGreatDoorP4q6
import Derived.Test.YtneeeaafhjaooaaGreatDoorP7q6
import Derived.Test.YtneeeaafhjaooaaGreatDoorLibsq6
set_option linter.unusedSimpArgs false
namespace Go.Proofs.YtneeeaafhjaooaaGreatDoor.P
set_option linter.all false
open Go.RowKit Go.Proofs.YtneeeaafhjaooaaGreatDoorW.PrintWords Go.Proofs.YtneeeaafhjaooaaGreatDoorW.PrintLast Go.Proofs.YtneeeaafhjaooaaGreatDoorW.PrintMore

def sigL (neg : Bool) (l : List UInt8) (e n way : Int) : Bool × List UInt8 × Int × Int :=
  if rightL l e = true ∧ 0 ≤ way ∧ way ≤ 5 ∧ 1 ≤ n then
    (if (l.length : Int) ≤ n then (neg, l, e, 0) else makeL neg (keptL neg l n way) (e + l.length - n))
  else (false, [], 0, 1)
def placeL (neg : Bool) (l : List UInt8) (e n way : Int) : Bool × List UInt8 × Int × Int :=
  if rightL l e = true ∧ 0 ≤ way ∧ way ≤ 5 ∧ -100000 ≤ n ∧ n ≤ 100000 then
    (if l = [] ∨ (l.length : Int) ≤ l.length + e + n then (neg, l, e, 0) else makeL neg (keptL neg l (l.length + e + n) way) (e + l.length - (l.length + e + n)))
  else (false, [], 0, 1)

theorem right_facts {l : List UInt8} {e : Int} (h : rightL l e = true) : l.all isDig = true ∧ l.length ≤ 1100 ∧ -100000 ≤ e ∧ e ≤ 100000 ∧ (l = [] → e = 0) := by
  unfold rightL at h
  by_cases h0 : l = []
  · rw [if_pos h0] at h
    have he : e = 0 := by simpa using h
    subst h0; exact ⟨rfl, by simp, by omega, by omega, fun _ => he⟩
  · rw [if_neg h0] at h
    simp only [Bool.and_eq_true, decide_eq_true_eq] at h
    exact ⟨h.1.1.2, h.1.1.1.1.1, h.1.1.1.1.2, h.1.1.1.2, fun q => absurd q h0⟩

theorem right_ends {l : List UInt8} {e : Int} (h : rightL l e = true) (h0 : l ≠ []) : l.getD 0 0 ≠ 48 ∧ l.getD (l.length - 1) 0 ≠ 48 := by
  unfold rightL at h
  rw [if_neg h0] at h
  simp only [Bool.and_eq_true, Bool.not_eq_true', beq_eq_false_iff_ne, ne_eq] at h
  exact ⟨h.1.2, h.2⟩

theorem Sig_eq (neg : Bool) (l : List UInt8) (e n way : Int) (hl : l.length ≤ 9223372036854775806) : Ev (fun k => decimal_Sig.f k neg (B l) e n way) (BQ (sigL neg l e n way)) := by
  unfold decimal_Sig.f
  simp only [Right_eq neg l e (by omega : l.length ≤ 9223372036854775807), Option.bind_some]
  have hbad : Ev (fun k => decimal_Sig.j0 k n way true neg (B l) e) (BQ (false, [], 0, 1)) := by
    refine Ev.step (fun k => by rw [decimal_Sig.j0]) ?_
    simp only [if_true]
    exact Ev.now _
  unfold sigL
  by_cases hr : rightL l e = true
  · obtain ⟨hd, hlen, he0, he1, _⟩ := right_facts hr
    simp only [if_pos hr]
    by_cases h0 : way < 0
    · simp only [if_pos h0, if_neg (show ¬ (rightL l e = true ∧ 0 ≤ way ∧ way ≤ 5 ∧ 1 ≤ n) by omega)]; exact hbad
    · simp only [if_neg h0]
      by_cases h5 : way > 5
      · simp only [if_pos h5, if_neg (show ¬ (rightL l e = true ∧ 0 ≤ way ∧ way ≤ 5 ∧ 1 ≤ n) by omega)]; exact hbad
      · simp only [if_neg h5]
        by_cases hn : n < 1
        · simp only [decide_eq_true hn, if_neg (show ¬ (rightL l e = true ∧ 0 ≤ way ∧ way ≤ 5 ∧ 1 ≤ n) by omega)]; exact hbad
        · simp only [decide_eq_false hn, if_pos (show (rightL l e = true ∧ 0 ≤ way ∧ way ≤ 5 ∧ 1 ≤ n) from ⟨hr, by omega, by omega, by omega⟩)]
          refine Ev.step (fun k => by rw [decimal_Sig.j0]) ?_
          simp only [Bool.false_eq_true, if_false, B_size]
          by_cases hnl : n ≥ (l.length : Int)
          · simp only [if_pos hnl, if_pos (show (l.length : Int) ≤ n from hnl)]
            exact Ev.now _
          · simp only [if_neg hnl, if_neg (show ¬ ((l.length : Int) ≤ n) from hnl)]
            refine Ev.bind (cut_eq neg l e n way hd (by omega) (by omega) (by omega) (by omega) (by omega)) ?_
            exact Ev.now _
  · simp only [if_neg hr, if_neg (show ¬ (rightL l e = true ∧ 0 ≤ way ∧ way ≤ 5 ∧ 1 ≤ n) from fun q => hr q.1)]; exact hbad

theorem Point_eq (neg : Bool) (l : List UInt8) (e : Int) (hl : l.length ≤ 9223372036854775806) : decimal_Point.f neg (B l) e = some (if rightL l e = true then l.length + e else 0) := by
  unfold decimal_Point.f
  rw [Right_eq neg l e (by omega), Option.bind_some, B_size]
  split
  · rename_i h
    obtain ⟨_, h1, h2, h3, _⟩ := right_facts h
    rw [w64 (by omega) (by omega)]
  · rfl
theorem refPoint_eq (neg : Bool) (l : List UInt8) (e : Int) (hl : l.length ≤ 9223372036854775806) : Ev (fun k => tabardref7_Point.f k neg (B l) e) (if rightL l e = true then l.length + e else 0) := by
  unfold tabardref7_Point.f
  refine Ev.bind (refRight neg l e hl) ?_
  simp only [B_size]
  split
  · rename_i h
    obtain ⟨_, h1, h2, h3, _⟩ := right_facts h
    simp only [w64 (show -9223372036854775808 ≤ (l.length : Int) + e by omega) (show (l.length : Int) + e ≤ 9223372036854775807 by omega)]
    exact Ev.now _
  · exact Ev.now _

theorem Place_eq (neg : Bool) (l : List UInt8) (e n way : Int) (hl : l.length ≤ 9223372036854775806) : Ev (fun k => decimal_Place.f k neg (B l) e n way) (BQ (placeL neg l e n way)) := by
  unfold decimal_Place.f
  simp only [Right_eq neg l e (by omega : l.length ≤ 9223372036854775807), Option.bind_some]
  have hbad : Ev (fun k => decimal_Place.j0 k n way true neg (B l) e) (BQ (false, [], 0, 1)) := by
    refine Ev.step (fun k => by rw [decimal_Place.j0]) ?_
    simp only [if_true]
    exact Ev.now _
  unfold placeL
  by_cases hr : rightL l e = true
  · obtain ⟨hd, hlen, he0, he1, _⟩ := right_facts hr
    simp only [if_pos hr]
    by_cases hc : 0 ≤ way ∧ way ≤ 5 ∧ -100000 ≤ n ∧ n ≤ 100000
    · obtain ⟨c1, c2, c3, c4⟩ := hc
      simp only [if_neg (show ¬ (way < 0) by omega), if_neg (show ¬ (way > 5) by omega), if_neg (show ¬ (n < -100000) by omega), decide_eq_false (show ¬ (n > 100000) by omega)]
      rw [if_pos (show (rightL l e = true ∧ 0 ≤ way ∧ way ≤ 5 ∧ -100000 ≤ n ∧ n ≤ 100000) from ⟨hr, c1, c2, c3, c4⟩)]
      refine Ev.step (fun k => by rw [decimal_Place.j0]) ?_
      simp only [Bool.false_eq_true, if_false, Point_eq neg l e hl, if_pos hr, Option.bind_some, B_toList, B_size]
      rw [w64 (show -9223372036854775808 ≤ (l.length : Int) + e + n by omega) (by omega)]
      by_cases h1 : l = []
      · simp only [if_pos h1, if_pos (Or.inl h1 : l = [] ∨ (l.length : Int) ≤ l.length + e + n)]
        exact Ev.now _
      · simp only [if_neg h1]
        by_cases h2 : (l.length : Int) + e + n < l.length
        · simp only [if_pos h2, if_neg (show ¬ (l = [] ∨ (l.length : Int) ≤ l.length + e + n) from fun q => q.elim h1 (by omega))]
          refine Ev.bind (cut_eq neg l e _ way hd (by omega) (by omega) (by omega) (by omega) (by omega)) ?_
          exact Ev.now _
        · simp only [if_neg h2, if_pos (show (l = [] ∨ (l.length : Int) ≤ l.length + e + n) from .inr (by omega))]
          exact Ev.now _
    · rw [if_neg (show ¬ (rightL l e = true ∧ 0 ≤ way ∧ way ≤ 5 ∧ -100000 ≤ n ∧ n ≤ 100000) from fun q => hc q.2)]
      by_cases c1 : way < 0
      · simp only [if_pos c1]; exact hbad
      · by_cases c2 : way > 5
        · simp only [if_neg c1, if_pos c2]; exact hbad
        · by_cases c3 : n < -100000
          · simp only [if_neg c1, if_neg c2, if_pos c3]; exact hbad
          · simp only [if_neg c1, if_neg c2, if_neg c3, decide_eq_true (show n > 100000 by omega)]; exact hbad
  · simp only [if_neg hr, if_neg (show ¬ (rightL l e = true ∧ 0 ≤ way ∧ way ≤ 5 ∧ -100000 ≤ n ∧ n ≤ 100000) from fun q => hr q.1)]; exact hbad

end Go.Proofs.YtneeeaafhjaooaaGreatDoor.P
