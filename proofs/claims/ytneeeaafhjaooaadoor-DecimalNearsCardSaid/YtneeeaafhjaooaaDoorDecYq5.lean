import Derived.Test.YtneeeaafhjaooaaDoorDecXq5
import Derived.Test.YtneeeaafhjaooaaDoorDecWq5
import Derived.Test.YtneeeaafhjaooaaDoorDecVq5
import Derived.Test.YtneeeaafhjaooaaDoorDecIq5
import Derived.Test.YtneeeaafhjaooaaDoorDecDq5
import Derived.Test.YtneeeaafhjaooaaDoorDecCq5
import Derived.Test.YtneeeaafhjaooaaDoorDecBq5
import Derived.Test.YtneeeaafhjaooaaDoorDecAq5
import Derived.Test.YtneeeaafhjaooaaDoorP0q5
import Derived.Test.YtneeeaafhjaooaaDoorProg
import Derived.Test.YtneeeaafhjaooaaDoorErefcutq5
import Derived.Test.YtneeeaafhjaooaaDoorTrimq5
import Derived.Test.YtneeeaafhjaooaaDoorDecHq5
import Derived.Test.YtneeeaafhjaooaaDoorLibsq5
import Derived.Lib.Atoi
import Derived.Lib.ItoaLen
import Derived.Lib.ItoaMem
set_option linter.unusedSimpArgs false
set_option linter.unusedVariables false
namespace Go.Proofs.YtneeeaafhjaooaaDoor.P
set_option linter.all false
open Go.RowKit Go.Proofs.YtneeeaafhjaooaaDoorW.PrintWords Go.Proofs.YtneeeaafhjaooaaDoorW.PrintLast Go.Proofs.YtneeeaafhjaooaaDoorW.PrintMore

theorem kept_len (neg : Bool) (l : List UInt8) (n way : Int) (hn : n < l.length) (h0 : 0 < l.length) : (keptL neg l n way).length ≤ l.length := by
  unfold keptL
  by_cases h : n < 0
  · rw [if_pos h]; split
    · exact h0
    · exact Nat.zero_le _
  · rw [if_neg h]
    have ht : (l.take n.toNat).length ≤ n.toNat := List.length_take_le _ _
    have hb : ∀ K : List UInt8, (bumpL K).length ≤ K.length + 1 := by
      intro K
      rcases split_nines K with ⟨c, rfl⟩ | ⟨A, x, c, hx, rfl⟩
      · rw [bump_all]; simp
      · rw [bump_at A x c hx]; simp
    unfold refKept
    split
    · have := hb (l.take n.toNat); omega
    · omega

theorem make_ok (neg : Bool) (L : List UInt8) (e : Int) (hd : L.all isDig = true) (hl : L.length ≤ 1100) (he0 : -100000 ≤ e) (he1 : e ≤ 98000) : ∃ xl xe, makeL neg L e = (neg, xl, xe, 0) := by
  have h1 := trimL_le L
  have h2 := trimR_le (trimL L)
  unfold makeL
  rw [if_pos hd]
  by_cases h0 : trimR (trimL L) = []
  · rw [if_pos h0]; exact ⟨_, _, rfl⟩
  · rw [if_neg h0, right_trim L _ hd h0, decide_eq_true (by omega), decide_eq_true (by omega), decide_eq_true (by omega), if_pos (by rfl)]
    exact ⟨_, _, rfl⟩

theorem place_ok (neg : Bool) (l : List UInt8) (e n way : Int) (h : rightL l e = true) (hw0 : 0 ≤ way) (hw5 : way ≤ 5) (hn0 : -90000 ≤ n) (hn1 : n ≤ 90000) : ∃ xl xe, placeL neg l e n way = (neg, xl, xe, 0) := by
  obtain ⟨hd, hlen, he0, he1, hz⟩ := right_facts h
  unfold placeL
  rw [if_pos ⟨h, hw0, hw5, by omega, by omega⟩]
  by_cases hs : l = [] ∨ (l.length : Int) ≤ l.length + e + n
  · rw [if_pos hs]; exact ⟨_, _, rfl⟩
  · rw [if_neg hs]
    have h0 : l ≠ [] := fun q => hs (.inl q)
    have hpos := List.length_pos_iff.2 h0
    have hk : e + n < 0 := by have := fun q => hs (.inr q); omega
    have hkl := kept_len neg l (l.length + e + n) way (by omega) hpos
    exact make_ok neg _ _ (kept_dig neg l _ way hd).1 (by omega) (by omega) (by omega)

theorem rnd_down (way : Int) (neg : Bool) (m U : Nat) (h : upV way neg (m / U) (m % U) U = false) : rnd way neg m U ≤ m := by
  unfold rnd; rw [h]
  have := Nat.div_mul_le_self m U
  simpa using this
theorem rnd_up (way : Int) (neg : Bool) (m U : Nat) (hU : 0 < U) (h : 0 < m % U → upV way neg (m / U) (m % U) U = true) : m ≤ rnd way neg m U := by
  unfold rnd
  have hd := Nat.div_add_mod m U
  have hm := Nat.mod_lt m hU
  by_cases h0 : 0 < m % U
  · rw [if_pos (h h0), Nat.add_mul, Nat.one_mul, Nat.mul_comm (m / U) U]; omega
  · have hz : m % U = 0 := by omega
    rw [Nat.add_mul, Nat.mul_comm (m / U) U]; omega
theorem upV4 (neg : Bool) (q r U : Nat) : upV 4 neg q r U = (decide (0 < r) && neg) := by unfold upV; simp
theorem upV5 (neg : Bool) (q r U : Nat) : upV 5 neg q r U = (decide (0 < r) && !neg) := by unfold upV; simp

theorem low_le (neg : Bool) (l : List UInt8) (e n : Int) (xn : Bool) (xl : List UInt8) (xe : Int) (h : placeL neg l e n 4 = (xn, xl, xe, 0)) : cmpL xn xl xe neg l e ≤ 0 := by
  obtain ⟨rfl, rx, mx, _, r1, _⟩ := place_val neg l e n 4 xn xl xe h
  rw [cmp_val _ _ _ _ _ _ rx r1, cmpI_le]
  unfold val
  rw [mx]
  cases xn with
  | true =>
    have := rnd_up 4 true (mag l e) (unitV n) (unitV_pos n) (fun q => by rw [upV4, decide_eq_true q]; rfl)
    simp only [if_true]; omega
  | false =>
    have := rnd_down 4 false (mag l e) (unitV n) (by rw [upV4, Bool.and_false])
    simp only [Bool.false_eq_true, if_false]; omega
theorem high_ge (neg : Bool) (l : List UInt8) (e n : Int) (xn : Bool) (xl : List UInt8) (xe : Int) (h : placeL neg l e n 5 = (xn, xl, xe, 0)) : cmpL neg l e xn xl xe ≤ 0 := by
  obtain ⟨rfl, rx, mx, _, r1, _⟩ := place_val neg l e n 5 xn xl xe h
  rw [cmp_val _ _ _ _ _ _ r1 rx, cmpI_le]
  unfold val
  rw [mx]
  cases xn with
  | true =>
    have := rnd_down 5 true (mag l e) (unitV n) (by rw [upV5]; simp)
    simp only [if_true]; omega
  | false =>
    have := rnd_up 5 false (mag l e) (unitV n) (unitV_pos n) (fun q => by rw [upV5, decide_eq_true q]; rfl)
    simp only [Bool.false_eq_true, if_false]; omega

/-- What is rounded to places rounds to itself, by any way. -/
theorem place_twice (neg : Bool) (l : List UInt8) (e n way : Int) (xn : Bool) (xl : List UInt8) (xe : Int) (h : placeL neg l e n way = (xn, xl, xe, 0)) (v : Int) (hv0 : 0 ≤ v) (hv5 : v ≤ 5) : placeL xn xl xe n v = (xn, xl, xe, 0) := by
  obtain ⟨_, rx, _, hs, _, _, _, hn0, hn1⟩ := place_val neg l e n way xn xl xe h
  unfold placeL
  rw [if_pos ⟨rx, hv0, hv5, hn0, hn1⟩, if_pos (hs.imp id (fun q => by omega))]

/-- Each way comes to the one below or the one above. -/
theorem place_two (neg : Bool) (l : List UInt8) (e n way : Int) (hw0 : 0 ≤ way) (hw5 : way ≤ 5) : placeL neg l e n way = placeL neg l e n 4 ∨ placeL neg l e n way = placeL neg l e n 5 := by
  by_cases hc : rightL l e = true ∧ -100000 ≤ n ∧ n ≤ 100000
  · have ew : ∀ w : Int, 0 ≤ w → w ≤ 5 → placeL neg l e n w = if l = [] ∨ (l.length : Int) ≤ l.length + e + n then (neg, l, e, 0) else makeL neg (keptL neg l (l.length + e + n) w) (e + l.length - (l.length + e + n)) := by
      intro w a b; unfold placeL; rw [if_pos ⟨hc.1, a, b, hc.2⟩]
    rw [ew way hw0 hw5, ew 4 (by omega) (by omega), ew 5 (by omega) (by omega)]
    by_cases hs : l = [] ∨ (l.length : Int) ≤ l.length + e + n
    · exact .inl (by rw [if_pos hs, if_pos hs])
    · rw [if_neg hs, if_neg hs, if_neg hs]
      have hk : keptL neg l (l.length + e + n) way = keptL neg l (l.length + e + n) 4 ∨ keptL neg l (l.length + e + n) way = keptL neg l (l.length + e + n) 5 := by
        have b4 : ∀ hf od, upB 4 hf od neg = neg := fun hf od => by simp [upB]
        have b5 : ∀ hf od, upB 5 hf od neg = !neg := fun hf od => by simp [upB]
        have hb : ∀ hf od, upB way hf od neg = neg ∨ upB way hf od neg = !neg := by
          intro hf od; cases neg <;> cases upB way hf od _ <;> simp
        unfold keptL refKept
        split
        · rw [b4, b5]
          rcases hb (-1) false with q | q <;> rw [q]
          · exact .inl rfl
          · exact .inr rfl
        · rw [b4, b5]
          rcases hb (halfL (l.drop ((l.length : Int) + e + n).toNat)) (oddL l ((l.length : Int) + e + n).toNat) with q | q <;> rw [q]
          · exact .inl rfl
          · exact .inr rfl
      rcases hk with q | q <;> rw [q]
      · exact .inl rfl
      · exact .inr rfl
  · have ew : ∀ w : Int, placeL neg l e n w = (false, [], 0, 1) := by
      intro w; unfold placeL; rw [if_neg (fun q => hc ⟨q.1, q.2.2.2⟩)]
    exact .inl (by rw [ew, ew])

theorem make_trim (neg : Bool) (L : List UInt8) (e : Int) (xn : Bool) (xl : List UInt8) (xe : Int) (h : makeL neg L e = (xn, xl, xe, 0)) : xn = neg ∧ xl = trimR (trimL L) := by
  unfold makeL at h
  by_cases hd : L.all isDig = true
  · rw [if_pos hd] at h
    by_cases h0 : trimR (trimL L) = []
    · rw [if_pos h0] at h; simp only [Prod.mk.injEq] at h; exact ⟨h.1.symm, by rw [h0]; exact h.2.1.symm⟩
    · rw [if_neg h0] at h
      split at h
      · simp only [Prod.mk.injEq] at h; exact ⟨h.1.symm, h.2.1.symm⟩
      · simp at h
  · rw [if_neg hd] at h; simp at h
theorem sig_len (neg : Bool) (l : List UInt8) (e : Int) (k : Nat) (hk : 1 ≤ k) (way : Int) (zn : Bool) (zl : List UInt8) (ze : Int) (h : sigL neg l e k way = (zn, zl, ze, 0)) : zn = neg ∧ zl.length ≤ k := by
  unfold sigL at h
  by_cases hc : rightL l e = true ∧ 0 ≤ way ∧ way ≤ 5 ∧ 1 ≤ (k : Int)
  · rw [if_pos hc] at h
    by_cases hs : (l.length : Int) ≤ k
    · rw [if_pos hs] at h; simp only [Prod.mk.injEq] at h
      exact ⟨h.1.symm, by rw [← h.2.1]; omega⟩
    · rw [if_neg hs] at h
      obtain ⟨rfl, rfl⟩ := make_trim _ _ _ _ _ _ h
      refine ⟨rfl, ?_⟩
      have tl : ∀ L : List UInt8, (trimR (trimL L)).length ≤ L.length := fun L => Nat.le_trans (trimR_le _) (trimL_le _)
      unfold keptL
      rw [if_neg (by omega), Int.toNat_natCast]
      have htk : (l.take k).length ≤ k := List.length_take_le _ _
      unfold refKept
      split
      · rcases split_nines (l.take k) with ⟨c, hc⟩ | ⟨A, x, c, hx, hc⟩
        · rw [hc, bump_all, trimL_of_head _ _ (by decide)]
          have : trimR (49 :: List.replicate c 48) = [49] := by
            have := trimR_zeros c [49]
            rw [List.singleton_append] at this
            rw [this]; rfl
          rw [this]; exact hk
        · have hlen := congrArg List.length hc
          rw [hc, bump_at A x c hx]
          refine Nat.le_trans (tl _) ?_
          simp at hlen ⊢
          omega
      · exact Nat.le_trans (tl _) htk
  · rw [if_neg hc] at h; simp at h
end Go.Proofs.YtneeeaafhjaooaaDoor.P
