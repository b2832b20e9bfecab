import Derived.Test.YtneeeaafhjaooaaDoorDecCq1
import Derived.Test.YtneeeaafhjaooaaDoorDecBq1
import Derived.Test.YtneeeaafhjaooaaDoorDecAq1
import Derived.Test.YtneeeaafhjaooaaDoorP0q1
import Derived.Test.YtneeeaafhjaooaaDoorProg
import Derived.Test.YtneeeaafhjaooaaDoorErefcutq1
import Derived.Test.YtneeeaafhjaooaaDoorP1q1
import Derived.Test.YtneeeaafhjaooaaDoorP3q1
import Derived.Test.YtneeeaafhjaooaaDoorP4q1
import Derived.Test.YtneeeaafhjaooaaDoorP8q1
import Derived.Test.YtneeeaafhjaooaaDoorP9q1
import Derived.Test.YtneeeaafhjaooaaDoorLibsq1
set_option linter.unusedSimpArgs false
namespace Go.Proofs.YtneeeaafhjaooaaDoor.P
set_option linter.all false
open Go.RowKit Go.Proofs.YtneeeaafhjaooaaDoorW.PrintWords Go.Proofs.YtneeeaafhjaooaaDoorW.PrintLast Go.Proofs.YtneeeaafhjaooaaDoorW.PrintMore

def sigL (neg : Bool) (l : List UInt8) (e n way : Int) : Bool × List UInt8 × Int × Int :=
  if rightL l e = true ∧ 0 ≤ way ∧ way ≤ 5 ∧ 1 ≤ n then
    (if (l.length : Int) ≤ n then (neg, l, e, 0) else makeL neg (keptL neg l n way) (e + l.length - n))
  else (false, [], 0, 1)
def placeL (neg : Bool) (l : List UInt8) (e n way : Int) : Bool × List UInt8 × Int × Int :=
  if rightL l e = true ∧ 0 ≤ way ∧ way ≤ 5 ∧ -100000 ≤ n ∧ n ≤ 100000 then
    (if l = [] ∨ (l.length : Int) ≤ l.length + e + n then (neg, l, e, 0) else makeL neg (keptL neg l (l.length + e + n) way) (e + l.length - (l.length + e + n)))
  else (false, [], 0, 1)

theorem right_facts {l : List UInt8} {e : Int} (h : rightL l e = true) : l.all isDig = true ∧ l.length ≤ 1100 ∧ -100000 ≤ e ∧ e ≤ 100000 ∧ (l = [] → e = 0) := by
  unfold rightL at h
  by_cases h0 : l = []
  · rw [if_pos h0] at h
    have he : e = 0 := by simpa using h
    subst h0; exact ⟨rfl, by simp, by omega, by omega, fun _ => he⟩
  · rw [if_neg h0] at h
    simp only [Bool.and_eq_true, decide_eq_true_eq] at h
    exact ⟨h.1.1.2, h.1.1.1.1.1, h.1.1.1.1.2, h.1.1.1.2, fun q => absurd q h0⟩

theorem Sig_eq (neg : Bool) (l : List UInt8) (e n way : Int) (hl : l.length ≤ 9223372036854775806) : Ev (fun k => decimal_Sig.f k neg (B l) e n way) (BQ (sigL neg l e n way)) := by
  unfold decimal_Sig.f
  simp only [Right_eq neg l e (by omega : l.length ≤ 9223372036854775807), Option.bind_some]
  have hbad : Ev (fun k => decimal_Sig.j0 k n way true neg (B l) e) (BQ (false, [], 0, 1)) := by
    refine Ev.step (fun k => by rw [decimal_Sig.j0]) ?_
    simp only [if_true]
    exact Ev.now _
  unfold sigL
  by_cases hr : rightL l e = true
  · obtain ⟨hd, hlen, he0, he1, _⟩ := right_facts hr
    simp only [if_pos hr]
    by_cases h0 : way < 0
    · simp only [if_pos h0, if_neg (show ¬ (rightL l e = true ∧ 0 ≤ way ∧ way ≤ 5 ∧ 1 ≤ n) by omega)]; exact hbad
    · simp only [if_neg h0]
      by_cases h5 : way > 5
      · simp only [if_pos h5, if_neg (show ¬ (rightL l e = true ∧ 0 ≤ way ∧ way ≤ 5 ∧ 1 ≤ n) by omega)]; exact hbad
      · simp only [if_neg h5]
        by_cases hn : n < 1
        · simp only [decide_eq_true hn, if_neg (show ¬ (rightL l e = true ∧ 0 ≤ way ∧ way ≤ 5 ∧ 1 ≤ n) by omega)]; exact hbad
        · simp only [decide_eq_false hn, if_pos (show (rightL l e = true ∧ 0 ≤ way ∧ way ≤ 5 ∧ 1 ≤ n) from ⟨hr, by omega, by omega, by omega⟩)]
          refine Ev.step (fun k => by rw [decimal_Sig.j0]) ?_
          simp only [Bool.false_eq_true, if_false, B_size]
          by_cases hnl : n ≥ (l.length : Int)
          · simp only [if_pos hnl, if_pos (show (l.length : Int) ≤ n from hnl)]
            exact Ev.now _
          · simp only [if_neg hnl, if_neg (show ¬ ((l.length : Int) ≤ n) from hnl)]
            refine Ev.bind (cut_eq neg l e n way hd (by omega) (by omega) (by omega) (by omega) (by omega)) ?_
            exact Ev.now _
  · simp only [if_neg hr, if_neg (show ¬ (rightL l e = true ∧ 0 ≤ way ∧ way ≤ 5 ∧ 1 ≤ n) from fun q => hr q.1)]; exact hbad

theorem refSig_eq (neg : Bool) (l : List UInt8) (e n way : Int) (hl : l.length ≤ 9223372036854775806) : Ev (fun k => tabardref7_Sig.f k neg (B l) e n way) (BQ (sigL neg l e n way)) := by
  unfold tabardref7_Sig.f
  refine Ev.bind (refRight neg l e hl) ?_
  have hbad : Ev (fun k => tabardref7_Sig.j0 k n way true neg (B l) e) (BQ (false, [], 0, 1)) := by
    refine Ev.step (fun k => by rw [tabardref7_Sig.j0]) ?_
    simp only [if_true]
    exact Ev.now _
  unfold sigL
  by_cases hr : rightL l e = true
  · obtain ⟨hd, hlen, he0, he1, _⟩ := right_facts hr
    simp only [if_pos hr]
    by_cases h0 : way < 0
    · simp only [if_pos h0, if_neg (show ¬ (rightL l e = true ∧ 0 ≤ way ∧ way ≤ 5 ∧ 1 ≤ n) by omega)]; exact hbad
    · simp only [if_neg h0]
      by_cases h5 : way > 5
      · simp only [if_pos h5, if_neg (show ¬ (rightL l e = true ∧ 0 ≤ way ∧ way ≤ 5 ∧ 1 ≤ n) by omega)]; exact hbad
      · simp only [if_neg h5]
        by_cases hn : n < 1
        · simp only [decide_eq_true hn, if_neg (show ¬ (rightL l e = true ∧ 0 ≤ way ∧ way ≤ 5 ∧ 1 ≤ n) by omega)]; exact hbad
        · simp only [decide_eq_false hn, if_pos (show (rightL l e = true ∧ 0 ≤ way ∧ way ≤ 5 ∧ 1 ≤ n) from ⟨hr, by omega, by omega, by omega⟩)]
          refine Ev.step (fun k => by rw [tabardref7_Sig.j0]) ?_
          simp only [Bool.false_eq_true, if_false, B_size]
          by_cases hnl : (l.length : Int) ≤ n
          · simp only [if_pos hnl]
            exact Ev.now _
          · simp only [if_neg hnl]
            refine Ev.bind (refCut_eq neg l e n way hd (by omega) (by omega) (by omega) (by omega) (by omega)) ?_
            exact Ev.now _
  · simp only [if_neg hr, if_neg (show ¬ (rightL l e = true ∧ 0 ≤ way ∧ way ≤ 5 ∧ 1 ≤ n) from fun q => hr q.1)]; exact hbad
theorem Point_eq (neg : Bool) (l : List UInt8) (e : Int) (hl : l.length ≤ 9223372036854775806) : decimal_Point.f neg (B l) e = some (if rightL l e = true then l.length + e else 0) := by
  unfold decimal_Point.f
  rw [Right_eq neg l e (by omega), Option.bind_some, B_size]
  split
  · rename_i h
    obtain ⟨_, h1, h2, h3, _⟩ := right_facts h
    rw [w64 (by omega) (by omega)]
  · rfl
theorem refPoint_eq (neg : Bool) (l : List UInt8) (e : Int) (hl : l.length ≤ 9223372036854775806) : Ev (fun k => tabardref7_Point.f k neg (B l) e) (if rightL l e = true then l.length + e else 0) := by
  unfold tabardref7_Point.f
  refine Ev.bind (refRight neg l e hl) ?_
  simp only [B_size]
  split
  · rename_i h
    obtain ⟨_, h1, h2, h3, _⟩ := right_facts h
    simp only [w64 (show -9223372036854775808 ≤ (l.length : Int) + e by omega) (show (l.length : Int) + e ≤ 9223372036854775807 by omega)]
    exact Ev.now _
  · exact Ev.now _

theorem Place_eq (neg : Bool) (l : List UInt8) (e n way : Int) (hl : l.length ≤ 9223372036854775806) : Ev (fun k => decimal_Place.f k neg (B l) e n way) (BQ (placeL neg l e n way)) := by
  unfold decimal_Place.f
  simp only [Right_eq neg l e (by omega : l.length ≤ 9223372036854775807), Option.bind_some]
  have hbad : Ev (fun k => decimal_Place.j0 k n way true neg (B l) e) (BQ (false, [], 0, 1)) := by
    refine Ev.step (fun k => by rw [decimal_Place.j0]) ?_
    simp only [if_true]
    exact Ev.now _
  unfold placeL
  by_cases hr : rightL l e = true
  · obtain ⟨hd, hlen, he0, he1, _⟩ := right_facts hr
    simp only [if_pos hr]
    by_cases hc : 0 ≤ way ∧ way ≤ 5 ∧ -100000 ≤ n ∧ n ≤ 100000
    · obtain ⟨c1, c2, c3, c4⟩ := hc
      simp only [if_neg (show ¬ (way < 0) by omega), if_neg (show ¬ (way > 5) by omega), if_neg (show ¬ (n < -100000) by omega), decide_eq_false (show ¬ (n > 100000) by omega)]
      rw [if_pos (show (rightL l e = true ∧ 0 ≤ way ∧ way ≤ 5 ∧ -100000 ≤ n ∧ n ≤ 100000) from ⟨hr, c1, c2, c3, c4⟩)]
      refine Ev.step (fun k => by rw [decimal_Place.j0]) ?_
      simp only [Bool.false_eq_true, if_false, Point_eq neg l e hl, if_pos hr, Option.bind_some, B_toList, B_size]
      rw [w64 (show -9223372036854775808 ≤ (l.length : Int) + e + n by omega) (by omega)]
      by_cases h1 : l = []
      · simp only [if_pos h1, if_pos (Or.inl h1 : l = [] ∨ (l.length : Int) ≤ l.length + e + n)]
        exact Ev.now _
      · simp only [if_neg h1]
        by_cases h2 : (l.length : Int) + e + n < l.length
        · simp only [if_pos h2, if_neg (show ¬ (l = [] ∨ (l.length : Int) ≤ l.length + e + n) from fun q => q.elim h1 (by omega))]
          refine Ev.bind (cut_eq neg l e _ way hd (by omega) (by omega) (by omega) (by omega) (by omega)) ?_
          exact Ev.now _
        · simp only [if_neg h2, if_pos (show (l = [] ∨ (l.length : Int) ≤ l.length + e + n) from .inr (by omega))]
          exact Ev.now _
    · rw [if_neg (show ¬ (rightL l e = true ∧ 0 ≤ way ∧ way ≤ 5 ∧ -100000 ≤ n ∧ n ≤ 100000) from fun q => hc q.2)]
      by_cases c1 : way < 0
      · simp only [if_pos c1]; exact hbad
      · by_cases c2 : way > 5
        · simp only [if_neg c1, if_pos c2]; exact hbad
        · by_cases c3 : n < -100000
          · simp only [if_neg c1, if_neg c2, if_pos c3]; exact hbad
          · simp only [if_neg c1, if_neg c2, if_neg c3, decide_eq_true (show n > 100000 by omega)]; exact hbad
  · simp only [if_neg hr, if_neg (show ¬ (rightL l e = true ∧ 0 ≤ way ∧ way ≤ 5 ∧ -100000 ≤ n ∧ n ≤ 100000) from fun q => hr q.1)]; exact hbad

theorem makeL_nil (neg : Bool) (e : Int) : makeL neg [] e = (neg, [], 0, 0) := rfl

theorem refLess_eq (neg : Bool) (s : ByteArray) (e n way : Int) (hn0 : -1000000 ≤ n) (hn1 : n ≤ 1000000) :
    Ev (fun k => tabardref7_less.f k neg s e n way) (BQ (makeL neg (if upB way (-1) false neg = true then [49] else []) (-n))) := by
  unfold tabardref7_less.f
  have hm := refMake neg [49] (-n) (by simp) (by omega) (by omega)
  have hw : wrap64 (-n) = -n := w64 (by omega) (by omega)
  have hup : Ev (fun k => (tabardref7_Make.f k neg (⟨#[49]⟩ : ByteArray) (wrap64 (-n))).bind fun bt => some (bt.1, bt.2.1, bt.2.2.1, bt.2.2.2)) (BQ (makeL neg [49] (-n))) := by
    rw [hw]
    refine Ev.bind hm ?_
    exact Ev.now _
  have hno : Ev (fun _ => some (neg, (⟨#[]⟩ : ByteArray), (0 : Int), (0 : Int))) (BQ (makeL neg [] (-n))) := by rw [makeL_nil]; exact Ev.now _
  by_cases h3 : way = 3
  · subst h3
    simp only [if_true, up3]
    exact hup
  · simp only [if_neg h3]
    by_cases h4 : way = 4
    · subst h4
      simp only [if_true, up4, show ¬ ((4 : Int) = 5) by decide, if_false]
      cases neg with
      | true => simpa using hup
      | false => simpa using hno
    · simp only [if_neg h4]
      by_cases h5 : way = 5
      · subst h5
        simp only [if_true, up5]
        cases neg with
        | true => simpa using hno
        | false => simpa using hup
      · simp only [if_neg h5]
        have : upB way (-1) false neg = false := by
          by_cases h0 : way = 0
          · subst h0; exact up0b _ _ _ (by omega) (by omega)
          · by_cases h1 : way = 1
            · subst h1; rw [up1]; rfl
            · exact upE way _ _ _ h0 h1 h3 h4 h5
        rw [this]
        simpa using hno

theorem refPlace_eq (neg : Bool) (l : List UInt8) (e n way : Int) (hl : l.length ≤ 9223372036854775806) : Ev (fun k => tabardref7_Place.f k neg (B l) e n way) (BQ (placeL neg l e n way)) := by
  unfold tabardref7_Place.f
  refine Ev.bind (refRight neg l e hl) ?_
  have hbad : Ev (fun k => tabardref7_Place.j0 k n way true neg (B l) e) (BQ (false, [], 0, 1)) := by
    refine Ev.step (fun k => by rw [tabardref7_Place.j0]) ?_
    simp only [if_true]
    exact Ev.now _
  unfold placeL
  by_cases hr : rightL l e = true
  · obtain ⟨hd, hlen, he0, he1, _⟩ := right_facts hr
    simp only [if_pos hr]
    by_cases hc : 0 ≤ way ∧ way ≤ 5 ∧ -100000 ≤ n ∧ n ≤ 100000
    · obtain ⟨c1, c2, c3, c4⟩ := hc
      simp only [if_neg (show ¬ (way < 0) by omega), if_neg (show ¬ (way > 5) by omega), if_neg (show ¬ (n < -100000) by omega), decide_eq_false (show ¬ (n > 100000) by omega)]
      rw [if_pos (show (rightL l e = true ∧ 0 ≤ way ∧ way ≤ 5 ∧ -100000 ≤ n ∧ n ≤ 100000) from ⟨hr, c1, c2, c3, c4⟩)]
      refine Ev.step (fun k => by rw [tabardref7_Place.j0]) ?_
      simp only [Bool.false_eq_true, if_false, B_size]
      have hp := refPoint_eq neg l e hl
      rw [if_pos hr] at hp
      refine Ev.bind hp ?_
      rw [w64 (show -9223372036854775808 ≤ (l.length : Int) + e + n by omega) (by omega)]
      have hj : ∀ b : Bool, (b = true ↔ (l = [] ∨ (l.length : Int) ≤ l.length + e + n)) → Ev (fun k => tabardref7_Place.j1 k n way ((l.length : Int) + e + n) b neg (B l) e)
          (BQ (if l = [] ∨ (l.length : Int) ≤ l.length + e + n then (neg, l, e, 0) else makeL neg (keptL neg l (l.length + e + n) way) (e + l.length - (l.length + e + n)))) := by
        intro b hb
        refine Ev.step (fun k => by rw [tabardref7_Place.j1]) ?_
        by_cases hq : l = [] ∨ (l.length : Int) ≤ l.length + e + n
        · simp only [hb.2 hq, if_true, if_pos hq]
          exact Ev.now _
        · have hbf : b = false := Bool.eq_false_iff.2 (fun q => hq (hb.1 q))
          simp only [hbf, Bool.false_eq_true, if_false, if_neg hq]
          by_cases hneg : (l.length : Int) + e + n < 0
          · simp only [if_pos hneg]
            have := refLess_eq neg (B l) e n way (by omega) (by omega)
            have hk : keptL neg l ((l.length : Int) + e + n) way = (if upB way (-1) false neg = true then [49] else []) := by unfold keptL; rw [if_pos hneg]
            rw [hk, show e + (l.length : Int) - (l.length + e + n) = -n by omega]
            refine Ev.bind this ?_
            exact Ev.now _
          · simp only [if_neg hneg]
            refine Ev.bind (refCut_eq neg l e _ way hd (by omega) (by omega) (by omega) (by omega) (by omega)) ?_
            exact Ev.now _
      by_cases h1 : l = []
      · have h10 : (l.length : Int) = 0 := by rw [h1]; rfl
        simp only [if_pos h10]
        exact hj true ⟨fun _ => .inl h1, fun _ => rfl⟩
      · have h10 : ¬ ((l.length : Int) = 0) := by have := List.length_pos_iff.2 h1; omega
        simp only [if_neg h10]
        exact hj _ (by rw [decide_eq_true_eq]; exact ⟨fun q => .inr (by omega), fun q => q.elim (fun z => absurd z h1) (fun z => by omega)⟩)
    · rw [if_neg (show ¬ (rightL l e = true ∧ 0 ≤ way ∧ way ≤ 5 ∧ -100000 ≤ n ∧ n ≤ 100000) from fun q => hc q.2)]
      by_cases c1 : way < 0
      · simp only [if_pos c1]; exact hbad
      · by_cases c2 : way > 5
        · simp only [if_neg c1, if_pos c2]; exact hbad
        · by_cases c3 : n < -100000
          · simp only [if_neg c1, if_neg c2, if_pos c3]; exact hbad
          · simp only [if_neg c1, if_neg c2, if_neg c3, decide_eq_true (show n > 100000 by omega)]; exact hbad
  · simp only [if_neg hr, if_neg (show ¬ (rightL l e = true ∧ 0 ≤ way ∧ way ≤ 5 ∧ -100000 ≤ n ∧ n ≤ 100000) from fun q => hr q.1)]; exact hbad
end Go.Proofs.YtneeeaafhjaooaaDoor.P
