import Derived.Test.YtneeeaafhjaooaaDoorDecEq3
import Derived.Test.YtneeeaafhjaooaaDoorDecDq3
import Derived.Test.YtneeeaafhjaooaaDoorDecAq3
import Derived.Test.YtneeeaafhjaooaaDoorP0q3
import Derived.Test.YtneeeaafhjaooaaDoorProg
import Derived.Test.YtneeeaafhjaooaaDoorTrimq3
import Derived.Test.YtneeeaafhjaooaaDoorDecGq3
import Derived.Test.YtneeeaafhjaooaaDoorLibsq3
import Derived.Lib.Atoi
import Derived.Lib.ItoaLen
import Derived.Lib.ItoaMem
set_option linter.unusedSimpArgs false
set_option linter.unusedVariables false
namespace Go.Proofs.YtneeeaafhjaooaaDoor.P
set_option linter.all false
open Go.RowKit Go.Proofs.YtneeeaafhjaooaaDoorW.PrintWords Go.Proofs.YtneeeaafhjaooaaDoorW.PrintLast Go.Proofs.YtneeeaafhjaooaaDoorW.PrintMore

theorem trimL_zeros (a : Nat) (l : List UInt8) : trimL (List.replicate a 48 ++ l) = trimL l := by
  induction a with
  | zero => rfl
  | succ a ih => rw [List.replicate_succ, List.cons_append, trimL_cons, ih]
theorem trimR_zeros (b : Nat) (l : List UInt8) : trimR (l ++ List.replicate b 48) = trimR l := by
  induction b with
  | zero => simp
  | succ b ih => rw [List.replicate_succ', ← List.append_assoc, trimR_snoc, ih]
theorem trimL_right (l : List UInt8) (r : List UInt8) (h : l ≠ []) (h1 : l.getD 0 0 ≠ 48) : trimL (l ++ r) = l ++ r := by
  cases l with
  | nil => exact absurd rfl h
  | cons b l => rw [List.cons_append, trimL_of_head _ _ (by simpa using h1)]
theorem trimR_right (l : List UInt8) (h : l ≠ []) (h1 : l.getD (l.length - 1) 0 ≠ 48) : trimR l = l := by
  obtain ⟨a, b, rfl⟩ : ∃ a b, l = a ++ [b] := ⟨l.dropLast, l.getLast h, (List.dropLast_concat_getLast h).symm⟩
  rw [getD_last] at h1
  exact trimR_of_last a b h1
/-- Digits with noughts at either end are made right. -/
theorem make_right (neg : Bool) (l : List UInt8) (e : Int) (h : rightL l e = true) (h0 : l ≠ []) (a b : Nat) :
    makeL neg (List.replicate a 48 ++ (l ++ List.replicate b 48)) (e - b) = (neg, l, e, 0) := by
  obtain ⟨hd, _⟩ := right_facts h
  obtain ⟨e1, e2⟩ := right_ends h h0
  have hL : trimL (List.replicate a 48 ++ (l ++ List.replicate b 48)) = l ++ List.replicate b 48 := by rw [trimL_zeros, trimL_right l _ h0 e1]
  have hR : trimR (l ++ List.replicate b 48) = l := by rw [trimR_zeros, trimR_right l h0 e2]
  have hz : ∀ n, (List.replicate n (48 : UInt8)).all isDig = true := by
    intro n; rw [List.all_eq_true]; intro x hx; rw [List.eq_of_mem_replicate hx]; rfl
  unfold makeL
  rw [hL, hR, if_pos (by rw [List.all_append, List.all_append, hz, hz, hd]; rfl), if_neg h0]
  have he : e - (b : Int) + (((l ++ List.replicate b (48 : UInt8)).length - l.length : Nat) : Int) = e := by rw [List.length_append, List.length_replicate]; omega
  rw [he, if_pos h]

theorem decDigits_all (u : Nat) : (Lib.decDigits u).all isDig = true := by
  induction u using Nat.strongRecOn with
  | _ u ih =>
    have hdig : ∀ d : Fin 10, isDig (UInt8.ofNat (48 + d.val)) = true := by decide
    by_cases h : u < 10
    · rw [Lib.decDigits_one h]; simpa using hdig ⟨u, h⟩
    · rw [Lib.decDigits.eq_1 u, dif_neg h, List.all_append, ih (u / 10) (by omega)]
      simpa using hdig ⟨u % 10, by omega⟩
theorem decDigits_nat (u : Nat) : natL (Lib.decDigits u) = u := by
  induction u using Nat.strongRecOn with
  | _ u ih =>
    have hv : ∀ d : Fin 10, (UInt8.ofNat (48 + d.val)).toNat - 48 = d.val := by decide
    by_cases h : u < 10
    · rw [Lib.decDigits_one h]; have := hv ⟨u, h⟩; simpa [natL, natFrom] using this
    · rw [Lib.decDigits.eq_1 u, dif_neg h, natL, natFrom_snoc]
      have h1 := ih (u / 10) (by omega)
      have h2 := hv ⟨u % 10, by omega⟩
      unfold natL at h1
      simp only at h2
      rw [h1, h2]; omega
theorem decDigits_ne (u : Nat) : Lib.decDigits u ≠ [] := by
  intro h
  have := congrArg List.length h
  rw [Lib.decDigits_length] at this
  have := Lib.nDigits_pos u
  simp at *; omega
theorem nDigits_le (k : Nat) : ∀ u, u < 10 ^ (k + 1) → Lib.nDigits u ≤ k + 1 := by
  induction k with
  | zero => intro u h; rw [Lib.nDigits_small (by simpa using h)]; omega
  | succ k ih =>
    intro u h
    by_cases hs : u < 10
    · rw [Lib.nDigits_small hs]; omega
    · rw [Lib.nDigits_big hs]
      have := ih (u / 10) (by rw [Nat.pow_succ] at h; omega)
      omega
theorem decDigits_9 (u : Nat) (h : u < 1000000000) : (Lib.decDigits u).length ≤ 9 := by
  rw [Lib.decDigits_length]; exact nDigits_le 8 u h

theorem takeWhile_app (a r : List UInt8) (ha : a.all isDig = true) (hr : r.head?.all (fun b => !isDig b) = true) : (a ++ r).takeWhile isDig = a ∧ (a ++ r).dropWhile isDig = r := by
  induction a with
  | nil =>
    cases r with
    | nil => exact ⟨rfl, rfl⟩
    | cons b r =>
      have : isDig b = false := by simpa using hr
      exact ⟨by rw [List.nil_append, List.takeWhile_cons_of_neg (by simp [this])], by rw [List.nil_append, List.dropWhile_cons_of_neg (by simp [this])]⟩
  | cons x a ih =>
    rw [List.all_cons, Bool.and_eq_true] at ha
    obtain ⟨h1, h2⟩ := ih ha.2
    exact ⟨by rw [List.cons_append, List.takeWhile_cons_of_pos ha.1, h1], by rw [List.cons_append, List.dropWhile_cons_of_pos ha.1, h2]⟩

theorem parse_sign (neg : Bool) (b : List UInt8) (h : b.head? ≠ some 45) : parseL (signL neg ++ b) = behindL neg (b.takeWhile isDig) (b.dropWhile isDig) := by
  unfold parseL signL
  cases neg with
  | true => rw [if_pos rfl, if_pos (by rfl)]; rfl
  | false =>
    have e0 : (if false = true then [45] else []) ++ b = b := rfl
    rw [e0, if_neg h]

theorem all_takeH (l : List UInt8) (n : Nat) (h : l.all isDig = true) : (l.take n).all isDig = true := by
  rw [← List.take_append_drop n l, List.all_append, Bool.and_eq_true] at h; exact h.1
theorem all_dropH (l : List UInt8) (n : Nat) (h : l.all isDig = true) : (l.drop n).all isDig = true := by
  rw [← List.take_append_drop n l, List.all_append, Bool.and_eq_true] at h; exact h.2
theorem zeros_all (n : Nat) : (List.replicate n (48 : UInt8)).all isDig = true := by
  rw [List.all_eq_true]; intro x hx; rw [List.eq_of_mem_replicate hx]; rfl
theorem head_dig (b : List UInt8) (h : b.head?.all isDig = true) : b.head? ≠ some 45 := by
  intro q; rw [q] at h; exact absurd h (by decide)

theorem expT_minus (u : Nat) (h : u < 1000000000) : expT (45 :: Lib.decDigits u) = some (-(u : Int)) := by
  have hs : skipL (45 :: Lib.decDigits u) = Lib.decDigits u := by unfold skipL; rw [if_pos (.inr rfl)]; rfl
  obtain ⟨h1, h2⟩ := takeWhile_app (Lib.decDigits u) [] (decDigits_all u) rfl
  rw [List.append_nil] at h1 h2
  unfold expT
  rw [hs, if_neg]
  · unfold expV; rw [h1, decDigits_nat]; rfl
  · intro q
    rcases (badL_iff _).1 q with q | q | q
    · rw [h1] at q; exact decDigits_ne u q
    · rw [h1] at q; have := decDigits_9 u h; omega
    · exact q h2
theorem expT_plus (u : Nat) (h : u < 1000000000) : expT (43 :: Lib.decDigits u) = some (u : Int) := by
  have hs : skipL (43 :: Lib.decDigits u) = Lib.decDigits u := by unfold skipL; rw [if_pos (.inl rfl)]; rfl
  obtain ⟨h1, h2⟩ := takeWhile_app (Lib.decDigits u) [] (decDigits_all u) rfl
  rw [List.append_nil] at h1 h2
  unfold expT
  rw [hs, if_neg]
  · unfold expV; rw [h1, decDigits_nat, if_neg (by simp)]
  · intro q
    rcases (badL_iff _).1 q with q | q | q
    · rw [h1] at q; exact decDigits_ne u q
    · rw [h1] at q; have := decDigits_9 u h; omega
    · exact q h2

theorem big_exp (p : Int) (h0 : -200000 ≤ p) (h1 : p ≤ 200000) : expL (bigL p) = some (p - 1) := by
  unfold bigL
  by_cases hp : p < 1
  · rw [if_pos hp, expL_yes _ _ (.inl rfl), expT_minus _ (by omega)]; congr 1; omega
  · rw [if_neg hp, expL_yes _ _ (.inl rfl), expT_plus _ (by omega)]; congr 1; omega
theorem big_head (p : Int) : ∃ t, bigL p = 101 :: t := by unfold bigL; split <;> exact ⟨_, rfl⟩

theorem behindL_46 (neg : Bool) (a r : List UInt8) : behindL neg a (46 :: r) = endL neg a (r.takeWhile isDig) (r.dropWhile isDig) := if_pos rfl

theorem parse_print (neg : Bool) (l : List UInt8) (e : Int) (h : rightL l e = true) : parseL (printL neg l e) = (neg, l, e, 0) := by
  obtain ⟨hd, hlen, he0, he1, hz⟩ := right_facts h
  unfold printL
  rw [if_pos h]
  by_cases h0 : l = []
  · subst h0
    obtain rfl := hz rfl
    cases neg <;> rfl
  · have hpos : 0 < l.length := List.length_pos_iff.2 h0
    have mk : ∀ a b (x : Int), x = e - (b : Nat) → makeL neg (List.replicate a 48 ++ (l ++ List.replicate b 48)) x = (neg, l, e, 0) := by
      rintro a b x rfl; exact make_right neg l e h h0 a b
    have hdh : ∀ n r, 0 < n → ((l.take n) ++ r).head? ≠ some 45 := by
      intro n r hn
      cases l with
      | nil => exact absurd rfl h0
      | cons b l =>
        obtain ⟨n, rfl⟩ : ∃ m, n = m + 1 := ⟨n - 1, by omega⟩
        rw [List.all_cons, Bool.and_eq_true] at hd
        refine head_dig _ ?_
        simpa using hd.1
    obtain ⟨p, hp⟩ : ∃ p, (l.length : Int) + e = p := ⟨_, rfl⟩
    rw [hp]
    unfold bodyL
    rw [if_neg h0]
    by_cases h1 : 1 ≤ p ∧ p ≤ 21
    · rw [if_pos h1]
      by_cases hn : (l.length : Int) ≤ p
      · rw [if_pos hn]
        have hb : (l ++ List.replicate (p.toNat - l.length) 48).head? ≠ some 45 := by
          have := hdh l.length (List.replicate (p.toNat - l.length) 48) hpos
          rwa [List.take_length] at this
        obtain ⟨t1, t2⟩ := takeWhile_app (l ++ List.replicate (p.toNat - l.length) 48) [] (by rw [List.all_append, hd, zeros_all]; rfl) rfl
        rw [List.append_nil] at t1 t2
        rw [parse_sign _ _ hb, t1, t2]
        unfold behindL endL
        rw [if_neg (by simp), if_neg (by simp [h0])]
        have := mk 0 (p.toNat - l.length) 0 (by omega)
        simpa [finL, expL] using this
      · rw [if_neg hn]
        obtain ⟨t1, t2⟩ := takeWhile_app (l.take p.toNat) (46 :: l.drop p.toNat) (all_takeH _ _ hd) rfl
        obtain ⟨t3, t4⟩ := takeWhile_app (l.drop p.toNat) [] (all_dropH _ _ hd) rfl
        rw [List.append_nil] at t3 t4
        rw [parse_sign _ _ (hdh _ _ (by omega)), t1, t2]
        rw [behindL_46, t3, t4]
        unfold endL
        rw [List.take_append_drop, if_neg h0]
        have := mk 0 0 (0 - ((l.drop p.toNat).length : Int)) (by rw [List.length_drop]; omega)
        simpa [finL, expL, List.take_append_drop] using this
    · rw [if_neg h1]
      by_cases h2 : -5 ≤ p ∧ p ≤ 0
      · rw [if_pos h2]
        obtain ⟨t1, t2⟩ := takeWhile_app [48] (46 :: (List.replicate (-p).toNat 48 ++ l)) rfl rfl
        obtain ⟨t3, t4⟩ := takeWhile_app (List.replicate (-p).toNat 48 ++ l) [] (by rw [List.all_append, hd, zeros_all]; rfl) rfl
        rw [List.append_nil] at t3 t4
        rw [parse_sign _ _ (by simp), show (48 : UInt8) :: 46 :: (List.replicate (-p).toNat 48 ++ l) = [48] ++ 46 :: (List.replicate (-p).toNat 48 ++ l) from rfl, t1, t2]
        rw [behindL_46, t3, t4]
        unfold endL
        rw [if_neg (by simp)]
        have := mk ((-p).toNat + 1) 0 (0 - ((List.replicate (-p).toNat (48 : UInt8) ++ l).length : Int)) (by rw [List.length_append, List.length_replicate]; omega)
        rw [List.replicate_succ] at this
        simpa [finL, expL] using this
      · rw [if_neg h2]
        have hbe := big_exp p (by omega) (by omega)
        obtain ⟨bt, hbt⟩ := big_head p
        have ht1 : (l.take 1).length = 1 := by rw [List.length_take]; omega
        by_cases hn : 1 < l.length
        · rw [if_pos hn]
          obtain ⟨t1, t2⟩ := takeWhile_app (l.take 1) (46 :: l.drop 1 ++ bigL p) (all_takeH _ _ hd) rfl
          obtain ⟨t3, t4⟩ := takeWhile_app (l.drop 1) (bigL p) (all_dropH _ _ hd) (by rw [hbt]; rfl)
          rw [parse_sign _ _ (hdh _ _ (by omega)), t1, t2]
          rw [List.cons_append, behindL_46, t3, t4]
          unfold endL
          rw [List.take_append_drop, if_neg h0, hbe]
          have := mk 0 0 (p - 1 - ((l.drop 1).length : Int)) (by rw [List.length_drop]; omega)
          show makeL neg (l.take 1 ++ l.drop 1) (p - 1 - ((l.drop 1).length : Int)) = _
          rw [List.take_append_drop]
          simpa using this
        · rw [if_neg hn, List.nil_append]
          obtain ⟨t1, t2⟩ := takeWhile_app (l.take 1) (bigL p) (all_takeH _ _ hd) (by rw [hbt]; rfl)
          have hl1 : l.take 1 = l := List.take_of_length_le (by omega)
          rw [parse_sign _ _ (hdh _ _ (by omega)), t1, t2, hl1]
          unfold behindL endL
          rw [if_neg (by rw [hbt]; simp), List.append_nil, if_neg h0, hbe]
          have := mk 0 0 (p - 1 - (([] : List UInt8).length : Int)) (by simp; omega)
          simpa [finL] using this

theorem print_len (neg : Bool) (l : List UInt8) (e : Int) : (printL neg l e).length ≤ 1300 := by
  unfold printL
  by_cases h : rightL l e = true
  · obtain ⟨hd, hlen, he0, he1, hz⟩ := right_facts h
    rw [if_pos h, List.length_append]
    have hs := signL_len neg
    have hb : (bodyL l (l.length + e)).length ≤ 1200 := by
      obtain ⟨p, hp⟩ : ∃ p, (l.length : Int) + e = p := ⟨_, rfl⟩
      rw [hp]
      unfold bodyL
      split
      · simp
      · split
        · split
          · simp; omega
          · simp; omega
        · split
          · simp; omega
          · have hbl : (bigL p).length ≤ 11 := by
              unfold bigL
              split
              · have := decDigits_9 (1 - p).toNat (by omega); simp only [List.length_cons]; omega
              · have := decDigits_9 (p - 1).toNat (by omega); simp only [List.length_cons]; omega
            simp only [List.length_append, List.length_take]
            split
            · simp only [List.length_cons, List.length_drop]; omega
            · simp only [List.length_nil]; omega
    omega
  · rw [if_neg h]; simp
end Go.Proofs.YtneeeaafhjaooaaDoor.P
