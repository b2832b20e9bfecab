import Derived.Test.YtneeeaafhjaooaaDoorDecVq5
import Derived.Test.YtneeeaafhjaooaaDoorDecCq5
import Derived.Test.YtneeeaafhjaooaaDoorDecAq5
import Derived.Test.YtneeeaafhjaooaaDoorP0q5
import Derived.Test.YtneeeaafhjaooaaDoorProg
import Derived.Test.YtneeeaafhjaooaaDoorErefcutq5
import Derived.Test.YtneeeaafhjaooaaDoorTrimq5
import Derived.Test.YtneeeaafhjaooaaDoorDecEq5
import Derived.Test.YtneeeaafhjaooaaDoorLibsq5
import Derived.Lib.Atoi
set_option linter.unusedSimpArgs false
set_option linter.unusedVariables false
namespace Go.Proofs.YtneeeaafhjaooaaDoor.P
set_option linter.all false
open Go.RowKit Go.Proofs.YtneeeaafhjaooaaDoorW.PrintWords Go.Proofs.YtneeeaafhjaooaaDoorW.PrintLast Go.Proofs.YtneeeaafhjaooaaDoorW.PrintMore

/-- Does it go up, by the quotient, what is left and the unit? -/
def upV (way : Int) (neg : Bool) (q r U : Nat) : Bool :=
  if way = 0 then decide (U < 2 * r) || (decide (2 * r = U) && decide (q % 2 = 1))
  else if way = 1 then decide (0 < r) && decide (U ≤ 2 * r)
  else if way = 3 then decide (0 < r)
  else if way = 4 then decide (0 < r) && neg
  else if way = 5 then decide (0 < r) && !neg
  else false
def rnd (way : Int) (neg : Bool) (m U : Nat) : Nat := (m / U + if upV way neg (m / U) (m % U) U = true then 1 else 0) * U

theorem upV_zero (way : Int) (neg : Bool) (q U : Nat) (hU : 0 < U) : upV way neg q 0 U = false := by
  unfold upV
  split
  · have : ¬ (U < 2 * 0) := by omega
    have h2 : ¬ (2 * 0 = U) := by omega
    rw [decide_eq_false this, decide_eq_false h2]; rfl
  · split
    · rfl
    · split
      · rfl
      · split
        · rfl
        · split <;> rfl
theorem rnd_mul (way : Int) (neg : Bool) (k U : Nat) (hU : 0 < U) : rnd way neg (k * U) U = k * U := by
  unfold rnd
  rw [Nat.mul_div_cancel _ hU, Nat.mul_mod_left, upV_zero way neg k U hU]
  simp

/-! ### what is made -/
theorem natL_trim (L : List UInt8) : natL L = natL (trimR (trimL L)) * 10 ^ ((trimL L).length - (trimR (trimL L)).length) := by
  obtain ⟨c, hc⟩ := trimL_split L
  obtain ⟨c2, hc2⟩ := trimR_split (trimL L)
  have h1 : natL L = natL (trimL L) := by
    conv => lhs; rw [hc]
    rw [natL_append, natL_zeros, Nat.zero_mul, Nat.zero_add]
  have h2 : natL (trimL L) = natL (trimR (trimL L)) * 10 ^ c2 := by
    conv => lhs; rw [hc2]
    rw [natL_append, natL_zeros, Nat.add_zero, List.length_replicate]
  have h3 : (trimL L).length - (trimR (trimL L)).length = c2 := by
    have := congrArg List.length hc2
    rw [List.length_append, List.length_replicate] at this
    omega
  rw [h1, h2, h3]
theorem make_val (neg : Bool) (L : List UInt8) (e : Int) (xn : Bool) (xl : List UInt8) (xe : Int) (he : -200000 ≤ e) (h : makeL neg L e = (xn, xl, xe, 0)) :
    xn = neg ∧ rightL xl xe = true ∧ mag xl xe = natL L * 10 ^ (e + 200000).toNat ∧ (xl = [] ∨ e ≤ xe) ∧ xl.length ≤ L.length ∧ (xl = [] ↔ natL L = 0) := by
  unfold makeL at h
  by_cases hd : L.all isDig = true
  · rw [if_pos hd] at h
    have ht := natL_trim L
    have hlen := Nat.le_trans (trimR_le (trimL L)) (trimL_le L)
    obtain ⟨T, hT⟩ : ∃ T, trimR (trimL L) = T := ⟨_, rfl⟩
    obtain ⟨c, hc⟩ : ∃ c, (trimL L).length - T.length = c := ⟨_, rfl⟩
    rw [hT] at h ht hlen
    rw [hc] at h ht
    by_cases h0 : T = []
    · rw [if_pos h0] at h
      obtain ⟨rfl, rfl, rfl, _⟩ := Prod.mk.injEq .. ▸ h |> fun q => (⟨q.1, (Prod.mk.inj q.2).1, (Prod.mk.inj (Prod.mk.inj q.2).2).1, trivial⟩ : neg = xn ∧ [] = xl ∧ (0 : Int) = xe ∧ True)
      have hz : natL L = 0 := by rw [ht, h0, natL_nil, Nat.zero_mul]
      exact ⟨rfl, rfl, by rw [mag_nil, hz, Nat.zero_mul], .inl rfl, by simp, by simp [hz]⟩
    · rw [if_neg h0] at h
      by_cases hr : rightL T (e + (c : Nat)) = true
      · rw [if_pos hr] at h
        obtain ⟨rfl, rfl, rfl⟩ : neg = xn ∧ T = xl ∧ e + (c : Nat) = xe := by
          simp only [Prod.mk.injEq] at h; exact ⟨h.1, h.2.1, h.2.2.1⟩
        have hp := mag_pos _ _ hr h0
        have hm : mag T (e + (c : Nat)) = natL L * 10 ^ (e + 200000).toNat := by
          unfold mag
          rw [ht, Nat.mul_assoc, ← Nat.pow_add]
          congr 2; omega
        refine ⟨rfl, hr, hm, .inr (by omega), hlen, ⟨fun q => absurd q h0, fun q => ?_⟩⟩
        rw [hm, q, Nat.zero_mul] at hp; omega
      · rw [if_neg hr] at h; simp at h
  · rw [if_neg hd] at h; simp at h

/-! ### what is kept -/
theorem natL_snoc (A : List UInt8) (x : UInt8) : natL (A ++ [x]) = natL A * 10 + (x.toNat - 48) := by
  rw [natL_append, natL_cons]; simp [natL_nil]
theorem split_nines (K : List UInt8) : (∃ c, K = List.replicate c 57) ∨ ∃ A x c, x ≠ 57 ∧ K = A ++ x :: List.replicate c 57 := by
  have h : ∀ R : List UInt8, (∃ c, R = List.replicate c 57) ∨ ∃ c x T, x ≠ 57 ∧ R = List.replicate c 57 ++ x :: T := by
    intro R
    induction R with
    | nil => exact .inl ⟨0, rfl⟩
    | cons b R ih =>
      by_cases hb : b = 57
      · rcases ih with ⟨c, hc⟩ | ⟨c, x, T, hx, hc⟩
        · exact .inl ⟨c + 1, by rw [hb, hc, List.replicate_succ]⟩
        · exact .inr ⟨c + 1, x, T, hx, by rw [hb, hc, List.replicate_succ, List.cons_append]⟩
      · exact .inr ⟨0, b, R, hb, rfl⟩
  rcases h K.reverse with ⟨c, hc⟩ | ⟨c, x, T, hx, hc⟩
  · refine .inl ⟨c, ?_⟩
    have := congrArg List.reverse hc
    rw [List.reverse_reverse, List.reverse_replicate] at this
    exact this
  · refine .inr ⟨T.reverse, x, c, hx, ?_⟩
    have := congrArg List.reverse hc
    rw [List.reverse_reverse, List.reverse_append, List.reverse_cons, List.reverse_replicate, List.append_assoc] at this
    exact this
theorem natL_nines (c : Nat) : natL (List.replicate c 57) + 1 = 10 ^ c := by
  induction c with
  | zero => rfl
  | succ c ih =>
    rw [List.replicate_succ, natL_cons, List.length_replicate, Nat.pow_succ]
    have : (57 : UInt8).toNat - 48 = 9 := rfl
    rw [this]; omega
theorem natL_bump (K : List UInt8) (hd : K.all isDig = true) : natL (bumpL K) = natL K + 1 := by
  rcases split_nines K with ⟨c, rfl⟩ | ⟨A, x, c, hx, rfl⟩
  · rw [bump_all, natL_cons, natL_zeros, List.length_replicate, natL_nines]
    have : (49 : UInt8).toNat - 48 = 1 := rfl
    rw [this]; omega
  · rw [bump_at A x c hx, natL_append, natL_append, natL_cons, natL_cons, natL_zeros]
    rw [List.all_append, Bool.and_eq_true, List.all_cons, Bool.and_eq_true] at hd
    have hb := (isDig_iff x).1 hd.2.1
    have hx9 : x.toNat ≠ 57 := fun q => hx (UInt8.toNat_inj.1 q)
    have hx1 : (x + 1).toNat - 48 = (x.toNat - 48) + 1 := by
      have : (x + 1).toNat = x.toNat + 1 := by rw [UInt8.toNat_add]; show (x.toNat + 1) % 256 = _; omega
      omega
    have hn := natL_nines c
    rw [hx1, List.length_cons, List.length_replicate, List.length_cons, List.length_replicate, Nat.add_mul, Nat.one_mul]
    omega

theorem half_cmp (R : List UInt8) (hd : R.all isDig = true) (h0 : R ≠ []) (hl : R.getD (R.length - 1) 0 ≠ 48) : halfL R = Lib.compareInt (2 * natL R : Nat) (10 ^ R.length : Nat) := by
  cases R with
  | nil => exact absurd rfl h0
  | cons b R =>
    rw [List.all_cons, Bool.and_eq_true] at hd
    have hb := (isDig_iff b).1 hd.1
    rw [natL_cons, List.length_cons, Nat.pow_succ]
    cases R with
    | nil =>
      simp only [List.length_nil, Nat.pow_zero, natL_nil, Nat.mul_one, Nat.add_zero, Nat.one_mul]
      by_cases h1 : b.toNat < 53
      · rw [half_lt b [] h1, cmpI_lt (by omega)]
      · by_cases h2 : 53 < b.toNat
        · rw [half_gt b [] h2, cmpI_gt (by omega)]
        · rw [half_one b (by omega), show b.toNat = 53 by omega, cmpI_eq]
    | cons c R =>
      have hlt := natL_lt (c :: R) hd.2
      have hpos : 0 < natL (c :: R) := by
        have hlast : (c :: R).getD ((c :: R).length - 1) 0 ≠ 48 := by intro q; apply hl; rw [← q]; simp
        rcases Nat.eq_zero_or_pos (natL (c :: R)) with hz | hz
        · exfalso
          obtain ⟨A, x, hA⟩ : ∃ A x, (c :: R) = A ++ [x] := ⟨(c :: R).dropLast, (c :: R).getLast (by simp), (List.dropLast_concat_getLast (by simp)).symm⟩
          rw [hA, getD_last] at hlast
          rw [hA, natL_snoc] at hz
          have hdx : isDig x = true := by
            have := hd.2; rw [hA, List.all_append, Bool.and_eq_true] at this; simpa using this.2
          have := (isDig_iff x).1 hdx
          exact hlast (UInt8.toNat_inj.1 (show x.toNat = 48 by omega))
        · exact hz
      generalize natL (c :: R) = Y at hlt hpos ⊢
      generalize 10 ^ (c :: R).length = P at hlt ⊢
      by_cases h1 : b.toNat < 53
      · rw [half_lt b (c :: R) h1, cmpI_lt]
        have : (b.toNat - 48) * P ≤ 4 * P := Nat.mul_le_mul_right _ (by omega)
        omega
      · have hh : halfL (b :: c :: R) = 1 := by simp only [halfL]; rw [if_pos (by omega)]
        have : 5 * P ≤ (b.toNat - 48) * P := Nat.mul_le_mul_right _ (by omega)
        rw [hh, cmpI_gt]
        omega

theorem odd_nat (l : List UInt8) (n : Nat) (hd : l.all isDig = true) (hn : n ≤ l.length) : oddL l n = decide (natL (l.take n) % 2 = 1) := by
  unfold oddL
  cases n with
  | zero => simp [natL_nil]
  | succ n =>
    have hlt : n < l.length := by omega
    rw [List.take_succ_eq_append_getElem hlt, natL_snoc, Nat.add_sub_cancel, List.getD, List.getElem?_eq_getElem hlt]
    have hb := (isDig_iff _).1 (List.all_eq_true.1 hd _ (List.getElem_mem hlt))
    have e1 : (some l[n]).getD 0 = l[n] := rfl
    rw [e1, decide_eq_true (Nat.succ_pos n), Bool.true_and, Bool.eq_iff_iff, beq_iff_eq, decide_eq_true_eq]
    generalize l[n].toNat = x at hb ⊢
    omega

theorem drop_last_ne (l : List UInt8) (n : Nat) (h : l.getD (l.length - 1) 0 ≠ 48) (h0 : l.drop n ≠ []) : (l.drop n).getD ((l.drop n).length - 1) 0 ≠ 48 := by
  have hlt : n < l.length := by
    rcases Nat.lt_or_ge n l.length with q | q
    · exact q
    · exact absurd (List.drop_of_length_le q) h0
  intro q; apply h; rw [← q, List.getD, List.getD, List.getElem?_drop, List.length_drop]
  congr 2; omega

theorem take_drop_nat (l : List UInt8) (n : Nat) (hd : l.all isDig = true) (hn : n ≤ l.length) : natL l / 10 ^ (l.length - n) = natL (l.take n) ∧ natL l % 10 ^ (l.length - n) = natL (l.drop n) := by
  have h1 : natL l = natL (l.take n) * 10 ^ (l.length - n) + natL (l.drop n) := by
    conv => lhs; rw [← List.take_append_drop n l]
    rw [natL_append, List.length_drop]
  have hdd : (l.drop n).all isDig = true := by
    rw [← List.take_append_drop n l, List.all_append, Bool.and_eq_true] at hd; exact hd.2
  have h2 := natL_lt (l.drop n) hdd
  rw [List.length_drop] at h2
  have hp : 0 < 10 ^ (l.length - n) := Nat.pow_pos (by decide)
  rw [h1]
  constructor
  · rw [Nat.mul_comm, Nat.mul_add_div hp, Nat.div_eq_of_lt h2, Nat.add_zero]
  · rw [Nat.mul_comm, Nat.mul_add_mod, Nat.mod_eq_of_lt h2]

/-- The kept digits, by the worth: the quotient, and one more where it goes up. -/
theorem kept_val (neg : Bool) (l : List UInt8) (n : Nat) (way : Int) (hd : l.all isDig = true) (hl : l ≠ [] → l.getD (l.length - 1) 0 ≠ 48) (hn : n ≤ l.length) :
    natL (refKept neg l n way) = natL l / 10 ^ (l.length - n) + if upV way neg (natL l / 10 ^ (l.length - n)) (natL l % 10 ^ (l.length - n)) (10 ^ (l.length - n)) = true then 1 else 0 := by
  obtain ⟨hq, hr⟩ := take_drop_nat l n hd hn
  have hkd : (l.take n).all isDig = true := all_take hd n
  have hup : (!(l.drop n).isEmpty && upB way (halfL (l.drop n)) (oddL l n) neg) = upV way neg (natL l / 10 ^ (l.length - n)) (natL l % 10 ^ (l.length - n)) (10 ^ (l.length - n)) := by
    rw [hq, hr]
    by_cases h0 : l.drop n = []
    · rw [h0, natL_nil, upV_zero _ _ _ _ (Nat.pow_pos (by decide))]; rfl
    · have hem : (l.drop n).isEmpty = false := by cases hx : l.drop n with
        | nil => exact absurd hx h0
        | cons b R => rfl
      have hl0 : l ≠ [] := by intro q; rw [q] at h0; exact h0 (List.drop_nil)
      have hdd : (l.drop n).all isDig = true := by
        rw [← List.take_append_drop n l, List.all_append, Bool.and_eq_true] at hd; exact hd.2
      have hlast := drop_last_ne l n (hl hl0) h0
      have hh := half_cmp (l.drop n) hdd h0 hlast
      have hpos : 0 < natL (l.drop n) := by
        obtain ⟨A, x, hA⟩ : ∃ A x, (l.drop n) = A ++ [x] := ⟨(l.drop n).dropLast, (l.drop n).getLast h0, (List.dropLast_concat_getLast h0).symm⟩
        rw [hA, getD_last] at hlast
        rw [hA, List.all_append, Bool.and_eq_true] at hdd
        have hdx : isDig x = true := by simpa using hdd.2
        have := (isDig_iff x).1 hdx
        have hx48 : x.toNat ≠ 48 := fun q => hlast (UInt8.toNat_inj.1 q)
        rw [hA, natL_snoc]; omega
      rw [hem, hh, odd_nat l n hd hn, List.length_drop]
      generalize natL (l.drop n) = r at hpos ⊢
      generalize 10 ^ (l.length - n) = U
      generalize natL (l.take n) = q
      unfold upB upV
      simp only [Bool.not_false, Bool.true_and]
      have c1 : (0 < Lib.compareInt (2 * r : Nat) (U : Nat)) ↔ U < 2 * r := by
        unfold Lib.compareInt; split
        · omega
        · split <;> omega
      have c2 : (Lib.compareInt (2 * r : Nat) (U : Nat) = 0) ↔ 2 * r = U := by rw [cmpI_zero]; omega
      have c3 : (0 ≤ Lib.compareInt (2 * r : Nat) (U : Nat)) ↔ U ≤ 2 * r := by
        unfold Lib.compareInt; split
        · omega
        · split <;> omega
      simp only [c1, c2, c3, hpos, decide_true, Bool.true_and]
  unfold refKept
  rw [hup, hq]
  split
  · exact natL_bump _ hkd
  · rfl
end Go.Proofs.YtneeeaafhjaooaaDoor.P
