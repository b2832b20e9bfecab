import Derived.Test.YtneeeaafhjaooaaDoorDecEq2
import Derived.Test.YtneeeaafhjaooaaDoorDecBq2
import Derived.Test.YtneeeaafhjaooaaDoorDecAq2
import Derived.Test.YtneeeaafhjaooaaDoorP0q2
import Derived.Test.YtneeeaafhjaooaaDoorProg
import Derived.Test.YtneeeaafhjaooaaDoorLibsq2
import Derived.Lib.Atoi
set_option linter.unusedSimpArgs false
set_option linter.unusedVariables false
namespace Go.Proofs.YtneeeaafhjaooaaDoor.P
set_option linter.all false
open Go.RowKit Go.Proofs.YtneeeaafhjaooaaDoorW.PrintWords Go.Proofs.YtneeeaafhjaooaaDoorW.PrintLast Go.Proofs.YtneeeaafhjaooaaDoorW.PrintMore

def nums (l : List UInt8) : List Int := l.map fun b => (b.toNat : Int)
theorem nums_snoc (l : List UInt8) (b : UInt8) : nums l ++ [(b.toNat : Int)] = nums (l ++ [b]) := by simp [nums]
theorem nums_length (l : List UInt8) : (nums l).length = l.length := by simp [nums]
theorem nums_str (l : List UInt8) : strOfNums (nums l) = B l := B_nums l

theorem at_cons {l r : List UInt8} {c : UInt8} {i : Nat} (h : l.drop i = c :: r) : i < l.length ∧ l.getD i 0 = c ∧ l.drop (i + 1) = r := by
  have hlt : i < l.length := by
    rcases Nat.lt_or_ge i l.length with q | q
    · exact q
    · rw [List.drop_of_length_le q] at h; cases h
  rw [drop_getD l i hlt] at h
  injection h with h1 h2
  exact ⟨hlt, h1, h2⟩
theorem at_nil {l : List UInt8} {i : Nat} (h : l.drop i = []) : l.length ≤ i := List.drop_eq_nil_iff.1 h

section
variable (l : List UInt8) (hl : l.length ≤ 9000)
include hl

/-- One round's head: is there a digit at place i? -/
theorem ref_l0 (neg : Bool) (q : Bool × ByteArray × Int × Int) (r : List UInt8) : ∀ (i : Nat) (acc : List UInt8), l.drop i = r → i ≤ l.length → acc.length ≤ i →
    Ev (fun k => tabardref7_Parse.j3 k (B l) ((i + (r.takeWhile isDig).length : Nat) : Int) neg (nums (acc ++ r.takeWhile isDig))) q →
    Ev (fun k => tabardref7_Parse.l0 k (B l) (i : Int) neg (nums acc)) q := by
  induction r with
  | nil =>
    intro i acc hr hi ha hq
    have := at_nil hr
    refine Ev.step (fun k => by rw [tabardref7_Parse.l0]) ?_
    simp only [B_size, if_neg (show ¬ ((i : Int) < (l.length : Int)) by omega)]
    simpa using hq
  | cons c r ih =>
    intro i acc hr hi ha hq
    obtain ⟨hlt, hc, hr2⟩ := at_cons hr
    refine Ev.step (fun k => by rw [tabardref7_Parse.l0]) ?_
    simp only [B_size, if_pos (show ((i : Int) < (l.length : Int)) by omega), if_pos (show (0 : Int) ≤ (i : Int) by omega), B_bt, Int.toNat_natCast, hc, refdigit, Option.bind_some, nums_length]
    cases hd : isDig c with
    | false =>
      simp only [Bool.false_eq_true, if_false]
      rw [List.takeWhile_cons_of_neg (by simp [hd])] at hq
      simpa using hq
    | true =>
      rw [List.takeWhile_cons_of_pos hd] at hq
      simp only [if_true, if_pos (show acc.length < 140737488355328 by omega), nums_snoc]
      rw [show wrap64 ((i : Int) + 1) = ((i + 1 : Nat) : Int) by rw [w64 (by omega) (by omega)]; rfl]
      refine ih (i + 1) (acc ++ [c]) hr2 (by omega) (by simp; omega) ?_
      rw [List.append_assoc, List.singleton_append, show i + 1 + (r.takeWhile isDig).length = i + (c :: r.takeWhile isDig).length by rw [List.length_cons]; omega]
      exact hq

theorem ref_l1 (neg : Bool) (x7 : Int) (q : Bool × ByteArray × Int × Int) (r : List UInt8) : ∀ (i n : Nat) (acc : List UInt8), l.drop i = r → i ≤ l.length → acc.length ≤ i → n ≤ i →
    Ev (fun k => tabardref7_Parse.j6 k (B l) ((i + (r.takeWhile isDig).length : Nat) : Int) neg (nums (acc ++ r.takeWhile isDig)) x7 (-((n + (r.takeWhile isDig).length : Nat) : Int))) q →
    Ev (fun k => tabardref7_Parse.l1 k (B l) (i : Int) neg (nums acc) x7 (-(n : Int))) q := by
  induction r with
  | nil =>
    intro i n acc hr hi ha hn hq
    have := at_nil hr
    refine Ev.step (fun k => by rw [tabardref7_Parse.l1]) ?_
    simp only [B_size, if_neg (show ¬ ((i : Int) < (l.length : Int)) by omega)]
    simpa using hq
  | cons c r ih =>
    intro i n acc hr hi ha hn hq
    obtain ⟨hlt, hc, hr2⟩ := at_cons hr
    refine Ev.step (fun k => by rw [tabardref7_Parse.l1]) ?_
    simp only [B_size, if_pos (show ((i : Int) < (l.length : Int)) by omega), if_pos (show (0 : Int) ≤ (i : Int) by omega), B_bt, Int.toNat_natCast, hc, refdigit, Option.bind_some, nums_length]
    cases hd : isDig c with
    | false =>
      simp only [Bool.false_eq_true, if_false]
      rw [List.takeWhile_cons_of_neg (by simp [hd])] at hq
      simpa using hq
    | true =>
      rw [List.takeWhile_cons_of_pos hd] at hq
      simp only [if_true, if_pos (show acc.length < 140737488355328 by omega), nums_snoc]
      rw [show wrap64 ((i : Int) + 1) = ((i + 1 : Nat) : Int) by rw [w64 (by omega) (by omega)]; rfl]
      rw [show wrap64 (-(n : Int) - 1) = -((n + 1 : Nat) : Int) by rw [w64 (by omega) (by omega)]; omega]
      refine ih (i + 1) (n + 1) (acc ++ [c]) hr2 (by omega) (by simp; omega) (by omega) ?_
      rw [List.append_assoc, List.singleton_append, show i + 1 + (r.takeWhile isDig).length = i + (c :: r.takeWhile isDig).length by rw [List.length_cons]; omega,
        show n + 1 + (r.takeWhile isDig).length = n + (c :: r.takeWhile isDig).length by rw [List.length_cons]; omega]
      exact hq

theorem ref_l2 (neg : Bool) (ds : List Int) (x8 x9 : Int) (q : Bool × ByteArray × Int × Int) (fr : Nat) (r : List UInt8) : ∀ (i v : Nat), l.drop i = r → i ≤ l.length → fr ≤ i → i ≤ fr + 9 → v < 10 ^ (i - fr) →
    Ev (fun k => tabardref7_Parse.j12 k (B l) ((i + ((r.takeWhile isDig).take (fr + 9 - i)).length : Nat) : Int) neg ds x8 x9 (natFrom v ((r.takeWhile isDig).take (fr + 9 - i)) : Nat) (fr : Int)) q →
    Ev (fun k => tabardref7_Parse.l2 k (B l) (i : Int) neg ds x8 x9 (v : Int) (fr : Int)) q := by
  induction r with
  | nil =>
    intro i v hr hi hf h9 hv hq
    have := at_nil hr
    refine Ev.step (fun k => by rw [tabardref7_Parse.l2]) ?_
    simp only [B_size, if_neg (show ¬ ((i : Int) < (l.length : Int)) by omega)]
    simpa [natFrom] using hq
  | cons c r ih =>
    intro i v hr hi hf h9 hv hq
    obtain ⟨hlt, hc, hr2⟩ := at_cons hr
    refine Ev.step (fun k => by rw [tabardref7_Parse.l2]) ?_
    simp only [B_size, if_pos (show ((i : Int) < (l.length : Int)) by omega), if_pos (show (0 : Int) ≤ (i : Int) by omega), B_bt, Int.toNat_natCast, hc, refdigit, Option.bind_some]
    cases hd : isDig c with
    | false =>
      simp only [Bool.false_eq_true, if_false]
      rw [List.takeWhile_cons_of_neg (by simp [hd])] at hq
      simpa [natFrom] using hq
    | true =>
      rw [List.takeWhile_cons_of_pos hd] at hq
      rw [show wrap64 ((fr : Int) + 9) = ((fr + 9 : Nat) : Int) by rw [w64 (by omega) (by omega)]; rfl]
      by_cases h : i < fr + 9
      · simp only [if_true, if_pos (show ((i : Int) < ((fr + 9 : Nat) : Int)) by omega)]
        have hb := (isDig_iff c).1 hd
        have hp : 10 ^ (i - fr) ≤ 10 ^ 8 := Nat.pow_le_pow_right (by decide) (by omega)
        rw [show wrap64 ((i : Int) + 1) = ((i + 1 : Nat) : Int) by rw [w64 (by omega) (by omega)]; rfl]
        rw [show wrap64 ((wrap64 (10 * (v : Int))) + (((c.toNat : Int) - 48) % 256)) = ((v * 10 + (c.toNat - 48) : Nat) : Int) by rw [w64 (x := 10 * (v : Int)) (by omega) (by omega), w64 (by omega) (by omega)]; omega]
        refine ih (i + 1) (v * 10 + (c.toNat - 48)) hr2 (by omega) (by omega) (by omega) ?_ ?_
        · rw [show i + 1 - fr = (i - fr) + 1 by omega, Nat.pow_succ]; omega
        · rw [show fr + 9 - i = (fr + 9 - (i + 1)) + 1 by omega, List.take_succ_cons, List.length_cons, natFrom_cons] at hq
          rw [show i + 1 + ((r.takeWhile isDig).take (fr + 9 - (i + 1))).length = i + (((r.takeWhile isDig).take (fr + 9 - (i + 1))).length + 1) by omega]
          exact hq
      · simp only [if_true, if_neg (show ¬ ((i : Int) < ((fr + 9 : Nat) : Int)) by omega)]
        rw [show fr + 9 - i = 0 by omega] at hq
        simpa [natFrom] using hq

variable (neg : Bool) (a b : List UInt8) (hab : a.length + b.length ≤ l.length)
include hab

theorem ref_j12 (sg : Int) (hsg : sg = 1 ∨ sg = -1) (fr : Nat) (u : List UInt8) (hu : l.drop fr = u) (hfr : fr ≤ l.length) :
    Ev (fun k => tabardref7_Parse.l2 k (B l) (fr : Int) neg (nums (a ++ b)) (-(b.length : Int)) sg 0 (fr : Int)) (BQ (finL neg a b (if badL u = true then none else some (sg * (natL (u.takeWhile isDig) : Int))))) := by
  refine ref_l2 l hl neg _ _ sg _ fr u fr 0 hu hfr (Nat.le_refl _) (by omega) (by simp) ?_
  rw [show fr + 9 - fr = 9 by omega]
  have hul : fr + u.length = l.length := by rw [← hu, List.length_drop]; omega
  have hsp := span_len u
  refine Ev.step (fun k => by rw [tabardref7_Parse.j12]) ?_
  simp only [B_size, nums_str]
  by_cases hn : u.takeWhile isDig = []
  · simp only [if_pos ((badL_iff u).2 (.inl hn))]
    simp only [hn, List.take_nil, List.length_nil, Nat.add_zero, if_true]
    exact Ev.now _
  · have hpos : 0 < (u.takeWhile isDig).length := List.length_pos_iff.2 hn
    have htl : ((u.takeWhile isDig).take 9).length = min 9 (u.takeWhile isDig).length := List.length_take ..
    simp only [if_neg (show ¬ (((fr + ((u.takeWhile isDig).take 9).length : Nat) : Int) = (fr : Int)) by omega)]
    by_cases hbad : 9 < (u.takeWhile isDig).length ∨ u.dropWhile isDig ≠ []
    · have hlt : fr + ((u.takeWhile isDig).take 9).length < l.length := by
        rcases hbad with h | h
        · omega
        · have := List.length_pos_iff.2 h; omega
      simp only [if_pos (show (((fr + ((u.takeWhile isDig).take 9).length : Nat) : Int) < (l.length : Int)) by omega), if_pos ((badL_iff u).2 (.inr hbad))]
      exact Ev.now _
    · have h9 : (u.takeWhile isDig).length ≤ 9 := by have := fun q => hbad (.inl q); omega
      have hr : u.dropWhile isDig = [] := by
        by_cases q : u.dropWhile isDig = []
        · exact q
        · exact absurd (.inr q) hbad
      rw [hr, List.length_nil] at hsp
      have htk : (u.takeWhile isDig).take 9 = u.takeWhile isDig := List.take_of_length_le h9
      rw [htk]
      simp only [if_neg (show ¬ (((fr + (u.takeWhile isDig).length : Nat) : Int) < (l.length : Int)) by omega), if_neg (show ¬ (badL u = true) from fun q => by rcases (badL_iff u).1 q with q | q; exact hn q; exact hbad q)]
      have hlt := natFrom_lt _ (takeWhile_all u) 0
      have hp : 10 ^ (u.takeWhile isDig).length ≤ 10 ^ 9 := Nat.pow_le_pow_right (by decide) h9
      have hv : natFrom 0 (u.takeWhile isDig) < 1000000000 := by omega
      rw [show wrap64 (-(b.length : Int) + wrap64 (sg * ((natFrom 0 (u.takeWhile isDig) : Nat) : Int))) = sg * (natL (u.takeWhile isDig) : Int) - b.length by
        unfold natL
        rcases hsg with rfl | rfl
        · rw [w64 (x := 1 * _) (by omega) (by omega), w64 (by omega) (by omega)]; omega
        · rw [w64 (x := -1 * _) (by omega) (by omega), w64 (by omega) (by omega)]; omega]
      unfold finL
      refine Ev.bind (refMake neg (a ++ b) _ (by rw [List.length_append]; omega) ?_ ?_) ?_
      · unfold natL; rcases hsg with rfl | rfl <;> omega
      · unfold natL; rcases hsg with rfl | rfl <;> omega
      · exact Ev.now _

theorem ref_yes (i : Nat) (c : UInt8) (t : List UInt8) (hi : l.drop i = c :: t) : Ev (fun k => tabardref7_Parse.j8 k (B l) (i : Int) neg (nums (a ++ b)) (-(b.length : Int)) true) (BQ (finL neg a b (expT t))) := by
  obtain ⟨hlt, hc, ht⟩ := at_cons hi
  refine Ev.step (fun k => by rw [tabardref7_Parse.j8]) ?_
  rw [show wrap64 ((i : Int) + 1) = ((i + 1 : Nat) : Int) by rw [w64 (by omega) (by omega)]; rfl]
  simp only [if_true, B_size, B_bt, Int.toNat_natCast]
  have hstay : ¬ (t.head? = some 43 ∨ t.head? = some 45) → Ev (fun k => tabardref7_Parse.j9 k (B l) ((i + 1 : Nat) : Int) neg (nums (a ++ b)) (-(b.length : Int)) 1 false) (BQ (finL neg a b (expT t))) := by
    intro hs
    have he : expT t = if badL t = true then none else some (1 * (natL (t.takeWhile isDig) : Int)) := by
      have hsk : skipL t = t := if_neg hs
      have hv : expV t t = 1 * (natL (t.takeWhile isDig) : Int) := by unfold expV; rw [if_neg (fun q => hs (.inr q)), Int.one_mul]
      unfold expT; rw [hsk, hv]
    rw [he]
    refine Ev.step (fun k => by rw [tabardref7_Parse.j9]) ?_
    simp only [Bool.false_eq_true, if_false]
    refine Ev.step (fun k => by rw [tabardref7_Parse.j10]) ?_
    exact ref_j12 l hl neg a b hab 1 (.inl rfl) (i + 1) t ht (by omega)
  have hskip : ∀ x t', t = x :: t' → (x = 43 ∨ x = 45) → Ev (fun k => tabardref7_Parse.j9 k (B l) ((i + 1 : Nat) : Int) neg (nums (a ++ b)) (-(b.length : Int)) 1 true) (BQ (finL neg a b (expT t))) := by
    intro x t' htx hx
    subst htx
    obtain ⟨hlt2, hc2, ht2⟩ := at_cons ht
    have hsk : skipL (x :: t') = t' := by unfold skipL; rw [if_pos (by simpa using hx)]; rfl
    refine Ev.step (fun k => by rw [tabardref7_Parse.j9]) ?_
    rw [show wrap64 (((i + 1 : Nat) : Int) + 1) = ((i + 1 + 1 : Nat) : Int) by rw [w64 (by omega) (by omega)]; rfl]
    simp only [if_true, if_pos (show (0 : Int) ≤ ((i + 1 : Nat) : Int) by omega), B_size, if_pos (show (((i + 1 : Nat) : Int) < (l.length : Int)) by omega), B_bt, Int.toNat_natCast, hc2]
    by_cases h45 : x = 45
    · have he : expT (x :: t') = if badL t' = true then none else some (-1 * (natL (t'.takeWhile isDig) : Int)) := by
        have hv : expV (x :: t') t' = -1 * (natL (t'.takeWhile isDig) : Int) := by unfold expV; rw [if_pos (by rw [h45]; rfl)]; omega
        unfold expT; rw [hsk, hv]
      rw [he]
      simp only [if_pos (show ((x.toNat : Int) = 45) from (beq_nat x 45 (by decide)).2 h45)]
      refine Ev.step (fun k => by rw [tabardref7_Parse.j10]) ?_
      exact ref_j12 l hl neg a b hab (-1) (.inr rfl) (i + 1 + 1) t' ht2 (by omega)
    · have he : expT (x :: t') = if badL t' = true then none else some (1 * (natL (t'.takeWhile isDig) : Int)) := by
        have hv : expV (x :: t') t' = 1 * (natL (t'.takeWhile isDig) : Int) := by unfold expV; rw [if_neg (by simp [h45]), Int.one_mul]
        unfold expT; rw [hsk, hv]
      rw [he]
      simp only [if_neg (show ¬ ((x.toNat : Int) = 45) from fun q => h45 ((beq_nat x 45 (by decide)).1 q))]
      refine Ev.step (fun k => by rw [tabardref7_Parse.j10]) ?_
      exact ref_j12 l hl neg a b hab 1 (.inl rfl) (i + 1 + 1) t' ht2 (by omega)
  cases t with
  | nil =>
    have := at_nil ht
    simp only [if_neg (show ¬ (((i + 1 : Nat) : Int) < (l.length : Int)) by omega)]
    exact hstay (by simp)
  | cons x t =>
    obtain ⟨hlt2, hc2, ht2⟩ := at_cons ht
    simp only [if_pos (show (((i + 1 : Nat) : Int) < (l.length : Int)) by omega), if_pos (show (0 : Int) ≤ ((i + 1 : Nat) : Int) by omega), hc2]
    by_cases h43 : x = 43
    · simp only [if_pos (show ((x.toNat : Int) = 43) from (beq_nat x 43 (by decide)).2 h43)]
      exact hskip x t rfl (.inl h43)
    · simp only [if_neg (show ¬ ((x.toNat : Int) = 43) from fun q => h43 ((beq_nat x 43 (by decide)).1 q))]
      by_cases h45 : x = 45
      · rw [show ((x.toNat : Int) == 45) = true from by rw [h45]; rfl]
        exact hskip x t rfl (.inr h45)
      · rw [show ((x.toNat : Int) == 45) = false from by rw [beq_eq_false_iff_ne]; exact fun q => h45 ((beq_nat x 45 (by decide)).1 q)]
        exact hstay (by simp [h43, h45])

theorem ref_j7 (i : Nat) (l3 : List UInt8) (hi : l.drop i = l3) (hil : i ≤ l.length) (h0 : a ++ b ≠ []) :
    Ev (fun k => tabardref7_Parse.j7 k (B l) (i : Int) neg (nums (a ++ b)) (-(b.length : Int)) false) (BQ (finL neg a b (expL l3))) := by
  refine Ev.step (fun k => by rw [tabardref7_Parse.j7]) ?_
  simp only [Bool.false_eq_true, if_false, B_size]
  cases l3 with
  | nil =>
    have := at_nil hi
    simp only [if_neg (show ¬ ((i : Int) < (l.length : Int)) by omega)]
    refine Ev.step (fun k => by rw [tabardref7_Parse.j8]) ?_
    simp only [Bool.false_eq_true, if_false, B_size, if_neg (show ¬ ((i : Int) < (l.length : Int)) by omega), nums_str]
    rw [show finL neg a b (expL []) = makeL neg (a ++ b) (-(b.length : Int)) by show makeL neg (a ++ b) (0 - (b.length : Int)) = _; rw [show (0 : Int) - (b.length : Int) = -(b.length : Int) by omega]]
    refine Ev.bind (refMake neg (a ++ b) _ (by rw [List.length_append]; omega) (by omega) (by omega)) ?_
    exact Ev.now _
  | cons c t =>
    obtain ⟨hlt, hc, ht⟩ := at_cons hi
    simp only [if_pos (show ((i : Int) < (l.length : Int)) by omega), if_pos (show (0 : Int) ≤ (i : Int) by omega), B_bt, Int.toNat_natCast, hc]
    by_cases h101 : c = 101
    · simp only [if_pos (show ((c.toNat : Int) = 101) from (beq_nat c 101 (by decide)).2 h101)]
      rw [expL_yes c t (.inl h101)]
      exact ref_yes l hl neg a b hab i c t hi
    · simp only [if_neg (show ¬ ((c.toNat : Int) = 101) from fun q => h101 ((beq_nat c 101 (by decide)).1 q))]
      by_cases h69 : c = 69
      · rw [show ((c.toNat : Int) == 69) = true from by rw [h69]; rfl, expL_yes c t (.inr h69)]
        exact ref_yes l hl neg a b hab i c t hi
      · rw [show ((c.toNat : Int) == 69) = false from by rw [beq_eq_false_iff_ne]; exact fun q => h69 ((beq_nat c 69 (by decide)).1 q), expL_no c t (by simp [h101, h69])]
        refine Ev.step (fun k => by rw [tabardref7_Parse.j8]) ?_
        simp only [Bool.false_eq_true, if_false, B_size, if_pos (show ((i : Int) < (l.length : Int)) by omega)]
        exact Ev.now _

theorem ref_j6 (i : Nat) (l3 : List UInt8) (hi : l.drop i = l3) (hil : i ≤ l.length) :
    Ev (fun k => tabardref7_Parse.j6 k (B l) (i : Int) neg (nums (a ++ b)) (a.length : Int) (-(b.length : Int))) (BQ (endL neg a b l3)) := by
  refine Ev.step (fun k => by rw [tabardref7_Parse.j6]) ?_
  unfold endL
  simp only [nums_length]
  by_cases h0 : a ++ b = []
  · obtain ⟨rfl, rfl⟩ := List.append_eq_nil_iff.1 h0
    simp only [List.append_nil, List.length_nil, if_true, Int.natCast_zero, Int.neg_zero, beq_self_eq_true]
    refine Ev.step (fun k => by rw [tabardref7_Parse.j7]) ?_
    exact Ev.now _
  · have hp := List.length_pos_iff.2 h0
    simp only [if_neg h0, if_neg (show ¬ (((a ++ b).length : Int) = 0) by omega)]
    exact ref_j7 l hl neg a b hab i l3 hi hil h0
end

theorem ref_j3 (l : List UInt8) (hl : l.length ≤ 9000) (neg : Bool) (a : List UInt8) (i : Nat) (l2 : List UInt8) (hi : l.drop i = l2) (hil : i ≤ l.length) (ha : a.length ≤ i) :
    Ev (fun k => tabardref7_Parse.j3 k (B l) (i : Int) neg (nums a)) (BQ (behindL neg a l2)) := by
  refine Ev.step (fun k => by rw [tabardref7_Parse.j3]) ?_
  unfold behindL
  simp only [B_size, nums_length]
  have hno : ¬ l2.head? = some 46 → Ev (fun k => tabardref7_Parse.j4 k (B l) (i : Int) neg (nums a) (a.length : Int) 0 false) (BQ (endL neg a [] l2)) := by
    intro h
    refine Ev.step (fun k => by rw [tabardref7_Parse.j4]) ?_
    simp only [Bool.false_eq_true, if_false]
    have := ref_j6 l hl neg a [] (by simp; omega) i l2 hi hil
    simpa using this
  cases l2 with
  | nil =>
    have := at_nil hi
    simp only [if_neg (show ¬ ((i : Int) < (l.length : Int)) by omega), List.head?_nil, reduceCtorEq, if_false]
    exact hno (by simp)
  | cons c t =>
    obtain ⟨hlt, hc, ht⟩ := at_cons hi
    simp only [if_pos (show ((i : Int) < (l.length : Int)) by omega), if_pos (show (0 : Int) ≤ (i : Int) by omega), B_bt, Int.toNat_natCast, hc]
    by_cases h46 : c = 46
    · rw [show ((c.toNat : Int) == 46) = true from by rw [h46]; rfl]
      rw [if_pos (by rw [h46]; rfl)]
      refine Ev.step (fun k => by rw [tabardref7_Parse.j4]) ?_
      rw [show wrap64 ((i : Int) + 1) = ((i + 1 : Nat) : Int) by rw [w64 (by omega) (by omega)]; rfl]
      simp only [if_true, List.tail_cons]
      have hsp := span_len t
      have htl : i + 1 + t.length = l.length := by have := congrArg List.length ht; rw [List.length_drop] at this; omega
      refine ref_l1 l hl neg _ _ t (i + 1) 0 a ht (by omega) (by omega) (by omega) ?_
      simp only [Nat.zero_add]
      refine ref_j6 l hl neg a (t.takeWhile isDig) (by omega) (i + 1 + (t.takeWhile isDig).length) (t.dropWhile isDig) ?_ (by omega)
      rw [← List.drop_drop, ht]
      conv => lhs; arg 2; rw [← List.takeWhile_append_dropWhile (p := isDig) (l := t)]
      exact List.drop_left
    · rw [show ((c.toNat : Int) == 46) = false from by rw [beq_eq_false_iff_ne]; exact fun q => h46 ((beq_nat c 46 (by decide)).1 q)]
      rw [if_neg (by simp [h46])]
      exact hno (by simp [h46])

theorem refParse (l : List UInt8) (hl : l.length ≤ 9000) : Ev (fun k => tabardref7_Parse.f k (B l)) (BQ (parseL l)) := by
  unfold tabardref7_Parse.f parseL
  simp only [B_size, B_bt]
  have go : ∀ (neg : Bool) (i : Nat) (r : List UInt8), l.drop i = r → i ≤ l.length → Ev (fun k => tabardref7_Parse.j1 k (B l) (i : Int) neg) (BQ (behindL neg (r.takeWhile isDig) (r.dropWhile isDig))) := by
    intro neg i r hr hi
    have hsp := span_len r
    have hrl : i + r.length = l.length := by have := congrArg List.length hr; rw [List.length_drop] at this; omega
    refine Ev.step (fun k => by rw [tabardref7_Parse.j1]) ?_
    refine ref_l0 l hl neg _ r i [] hr hi (by simp) ?_
    rw [List.nil_append]
    refine ref_j3 l hl neg _ (i + (r.takeWhile isDig).length) (r.dropWhile isDig) ?_ (by omega) (by omega)
    rw [← List.drop_drop, hr]
    conv => lhs; arg 2; rw [← List.takeWhile_append_dropWhile (p := isDig) (l := r)]
    exact List.drop_left
  cases l with
  | nil =>
    simp only [List.length_nil, if_neg (show ¬ (((0 : Nat) : Int) > 0) by omega)]
    refine Ev.step (fun k => by rw [tabardref7_Parse.j0]) ?_
    simp only [Bool.false_eq_true, if_false]
    exact go false 0 [] rfl (by simp)
  | cons c t =>
    simp only [List.length_cons, if_pos (show (((t.length + 1 : Nat) : Int) > 0) by omega), if_pos (show (0 : Int) < ((t.length + 1 : Nat) : Int) by omega)]
    have hx : (c :: t).getD (Int.toNat 0) 0 = c := rfl
    rw [hx]
    by_cases h45 : c = 45
    · rw [show ((c.toNat : Int) == 45) = true from by rw [h45]; rfl]
      rw [if_pos (by rw [h45]; rfl)]
      refine Ev.step (fun k => by rw [tabardref7_Parse.j0]) ?_
      simp only [if_true]
      exact go true 1 t rfl (by simp)
    · rw [show ((c.toNat : Int) == 45) = false from by rw [beq_eq_false_iff_ne]; exact fun q => h45 ((beq_nat c 45 (by decide)).1 q)]
      rw [if_neg (by simp [h45])]
      refine Ev.step (fun k => by rw [tabardref7_Parse.j0]) ?_
      simp only [Bool.false_eq_true, if_false]
      exact go false 0 (c :: t) rfl (by simp)
end Go.Proofs.YtneeeaafhjaooaaDoor.P
