import Derived.Test.YtneeeaafhjaooaaGreatDoorDecAq6
import Derived.Test.YtneeeaafhjaooaaGreatDoorP0q6
import Derived.Test.YtneeeaafhjaooaaGreatDoorProg
import Derived.Test.YtneeeaafhjaooaaGreatDoorElibq6
import Derived.Test.YtneeeaafhjaooaaGreatDoorShelfq6
import Derived.Test.YtneeeaafhjaooaaGreatDoorErefcutq6
import Derived.Test.YtneeeaafhjaooaaGreatDoorP2q6
import Derived.Test.YtneeeaafhjaooaaGreatDoorP3q6
import Derived.Test.YtneeeaafhjaooaaGreatDoorP10q6
import Derived.Test.YtneeeaafhjaooaaGreatDoorTrimq6
import Derived.Test.YtneeeaafhjaooaaGreatDoorLibsq6
set_option linter.unusedSimpArgs false
namespace Go.Proofs.YtneeeaafhjaooaaGreatDoor.P
set_option linter.all false
open Go.RowKit Go.Proofs.YtneeeaafhjaooaaGreatDoorW.PrintWords Go.Proofs.YtneeeaafhjaooaaGreatDoorW.PrintLast Go.Proofs.YtneeeaafhjaooaaGreatDoorW.PrintMore

theorem cmp5 (R : List UInt8) (h : R ≠ []) : Lib.compareBytes R [53] = halfL R := by
  cases R with
  | nil => exact absurd rfl h
  | cons b R =>
    simp only [Lib.compareBytes]
    by_cases h1 : b < 53
    · rw [if_pos h1, half_lt b R (by simpa [UInt8.lt_iff_toNat_lt] using h1)]
    · rw [if_neg h1]
      by_cases h2 : (53 : UInt8) < b
      · rw [if_pos h2, half_gt b R (by simpa [UInt8.lt_iff_toNat_lt] using h2)]
      · rw [if_neg h2]
        have h3 : b.toNat = 53 := by
          rw [UInt8.lt_iff_toNat_lt] at h1 h2
          have : (53 : UInt8).toNat = 53 := rfl
          omega
        cases R with
        | nil => rw [half_one b h3]; rfl
        | cons c R => rw [half_eq b c R h3]; rfl

theorem and_one (b : UInt8) : Go.bits .and .u8 (b.toNat : Int) 1 = (b.toNat : Int) % 2 :=
  bits_mask .u8 8 (by decide) wraps_u8 1 (by decide) _ (by omega) (by have := UInt8.toNat_lt b; omega)

theorem up_eq (neg : Bool) (K R : List UInt8) (way : Int) (hK : K.length ≤ 10000) :
    decimal_up.f neg (B K) (B R) way = some (!R.isEmpty && upB way (halfL R) (decide (0 < K.length) && (((K.getD (K.length - 1) 0).toNat : Int) % 2 == 1)) neg) := by
  unfold decimal_up.f strings_Compare.f
  simp only [B_toList, B_data, B_size, B_bt, B_mk, Option.bind_some]
  by_cases hR : R = []
  · rw [if_pos hR, hR]; rfl
  · have hRe : R.isEmpty = false := by cases R with | nil => exact absurd rfl hR | cons _ _ => rfl
    rw [if_neg hR, hRe, cmp5 R hR, Bool.not_false, Bool.true_and]
    generalize halfL R = hf
    by_cases h0 : way = 0
    · rw [if_pos h0, h0]
      by_cases h1 : hf > 0
      · rw [if_pos h1, up0c _ _ _ h1]
      · rw [if_neg h1]
        by_cases h2 : hf = 0
        · rw [if_pos h2, up0a _ _ _ h2]
          by_cases h3 : K = []
          · rw [if_pos h3, h3]; rfl
          · have hpos : 0 < K.length := List.length_pos_iff.2 h3
            rw [if_neg h3, show wrap64 ((K.length : Int) - 1) = ((K.length - 1 : Nat) : Int) by rw [w64 (by omega) (by omega)]; omega, if_pos (by omega), if_pos (by omega), Int.toNat_natCast, and_one, decide_eq_true hpos, Bool.true_and]
        · rw [if_neg h2, up0b _ _ _ (by omega) h2]
    · rw [if_neg h0]
      by_cases h1 : way = 1
      · rw [if_pos h1, h1, up1]
      · rw [if_neg h1]
        by_cases h3 : way = 3
        · rw [if_pos h3, h3, up3]
        · rw [if_neg h3]
          by_cases h4 : way = 4
          · rw [if_pos h4, h4, up4]
          · rw [if_neg h4]
            by_cases h5 : way = 5
            · rw [if_pos h5, h5, up5]
            · rw [if_neg h5, upE way _ _ _ h0 h1 h3 h4 h5]

theorem encode_small (n : Nat) (h : n < 128) : Utf8.encode (n : Int) = B [UInt8.ofNat n] := by
  unfold Utf8.encode
  have hv : Utf8.valid (n : Int) = true := by unfold Utf8.valid; simp; omega
  simp [hv, h, B]

theorem trimRightS_57 (l : List UInt8) : Lib.trimRightS l [57] = (l.reverse.dropWhile (· == 57)).reverse := by
  unfold Lib.trimRightS; congr 2; funext b; simp only [List.contains_cons, List.contains_nil, Bool.or_false]

theorem more_eq (K : List UInt8) (hd : K.all isDig = true) (hK : K.length ≤ 10000) : decimal_more.f (B K) = some (B (bumpL K)) := by
  unfold decimal_more.f strings_TrimRight.f strings_Repeat.f
  simp only [B_data, B_size, B_mk]
  rw [if_pos ⟨by omega, by simp [asciiB], by simp⟩]
  simp only [Option.bind_some, B_size, B_mk, trimRightS_57, repeatL_one, B_toList]
  have hle : (K.reverse.dropWhile (· == 57)).length ≤ K.length := by
    have := (List.dropWhile_sublist (l := K.reverse) (· == 57)).length_le
    rwa [List.length_reverse] at this
  have hall : (K.reverse.dropWhile (· == 57)).all isDig = true := by
    rw [List.all_eq_true] at hd ⊢
    intro x hx
    exact hd x (by have := (List.dropWhile_sublist (l := K.reverse) (· == 57)).subset hx; simpa using this)
  have hhead : ∀ b t, K.reverse.dropWhile (· == 57) = b :: t → b ≠ 57 := by
    intro b t hbt e
    have h1 : ∀ l : List UInt8, l.dropWhile (· == 57) = b :: t → b ≠ 57 := by
      intro l
      induction l with
      | nil => intro h; cases h
      | cons c l ih =>
        intro h
        by_cases hc : c = 57
        · rw [List.dropWhile_cons_of_pos (by simpa using hc)] at h; exact ih h
        · rw [List.dropWhile_cons_of_neg (by simpa using hc)] at h; injection h with h1 _; rw [← h1]; exact hc
    exact h1 _ hbt e
  unfold bumpL
  cases hT : K.reverse.dropWhile (· == 57) with
  | nil =>
    rw [hT] at hle
    rw [show wrap64 ((K.length : Int) - ((([] : List UInt8).reverse).length : Int)) = (K.length : Int) by simp only [List.reverse_nil, List.length_nil]; rw [w64 (by omega) (by omega)]; omega]
    simp only [Int.toNat_natCast]
    rw [if_pos ⟨by omega, by omega, by simp; omega⟩]
    simp only [Option.bind_some, B_size, repeatL_one, B_mk, List.reverse_nil, if_true]
    rw [if_pos (by first | (simp; done) | (simp; omega))]
    simp
  | cons b t =>
    rw [hT] at hle hall
    have hbd : isDig b = true := by simp at hall; exact hall.1
    have hb57 := hhead b t hT
    rw [isDig_iff] at hbd
    have hbn : b.toNat < 57 := by
      have := toNat_ne hb57
      have h57 : (57 : UInt8).toNat = 57 := rfl
      omega
    simp only [List.reverse_cons, List.length_append, List.length_reverse, List.length_singleton]
    rw [show wrap64 ((K.length : Int) - ((t.length + 1 : Nat) : Int)) = ((K.length - 1 - t.length : Nat) : Int) by simp at hle; rw [w64 (by omega) (by omega)]; first | done | omega]
    simp only [Int.toNat_natCast]
    rw [if_pos ⟨by omega, by omega, by simp at hle; simp; omega⟩]
    simp only [Option.bind_some, B_size, repeatL_one, B_mk]
    rw [if_neg (by simp)]
    rw [show wrap64 (((t.length + 1 : Nat) : Int) - 1) = (t.length : Int) by simp at hle; rw [w64 (by omega) (by omega)]; first | done | omega]
    rw [if_pos (by omega), if_pos (by omega), if_pos (by omega)]
    simp only [Int.toNat_natCast, B_bt, B_extract]
    have hgb : (t.reverse ++ [b]).getD t.length 0 = b := by
      have := getD_last t.reverse b
      simpa using this
    rw [hgb]
    have hen : Utf8.encode (((b.toNat : Int) + 1) % 256) = B [b + 1] := by
      rw [show ((b.toNat : Int) + 1) % 256 = ((b.toNat + 1 : Nat) : Int) by omega, encode_small _ (by omega)]
      exact congrArg (fun z => B [z]) (UInt8.toNat_inj.1 (by rw [UInt8.toNat_ofNat', UInt8.toNat_add]; rfl))
    rw [hen]
    have htk : ((t.reverse ++ [b]).take t.length).drop 0 = t.reverse := by
      rw [List.drop_zero, List.take_append_of_le_length (by simp)]
      exact List.take_of_length_le (by simp)
    rw [htk]
    simp only [B_append, B_size]
    simp at hle
    rw [if_pos (by simp; omega), if_pos (by simp; omega)]
    simp

/-- What is kept of the digits: of n below 0 there are noughts ahead of the first one. -/
def keptL (neg : Bool) (l : List UInt8) (n way : Int) : List UInt8 :=
  if n < 0 then (if upB way (-1) false neg = true then [49] else []) else refKept neg l n.toNat way

theorem all_take {l : List UInt8} (h : l.all isDig = true) (n : Nat) : (l.take n).all isDig = true := by
  rw [List.all_eq_true] at h ⊢; exact fun x hx => h x (List.mem_of_mem_take hx)
theorem bump_dig (K : List UInt8) (hd : K.all isDig = true) : (bumpL K).all isDig = true ∧ (bumpL K).length ≤ K.length + 1 := by
  unfold bumpL
  have hle := (List.dropWhile_sublist (l := K.reverse) (· == 57)).length_le
  rw [List.length_reverse] at hle
  have hsub := (List.dropWhile_sublist (l := K.reverse) (· == 57)).subset
  have hhead : ∀ l : List UInt8, ∀ b t, l.dropWhile (· == 57) = b :: t → b ≠ 57 := by
    intro l b t
    induction l with
    | nil => intro h; cases h
    | cons c l ih =>
      intro h
      by_cases hc : c = 57
      · rw [List.dropWhile_cons_of_pos (by simpa using hc)] at h; exact ih h
      · rw [List.dropWhile_cons_of_neg (by simpa using hc)] at h; injection h with h1 _; rw [← h1]; exact hc
  cases hT : K.reverse.dropWhile (· == 57) with
  | nil => simp [isDig]
  | cons b t =>
    have hb57 := hhead _ b t hT
    rw [hT] at hle hsub
    simp at hle
    rw [List.all_eq_true] at hd
    have hbd := hd b (by have := hsub (List.mem_cons_self); simpa using this)
    have htd : ∀ x ∈ t, isDig x = true := fun x hx => hd x (by have := hsub (List.mem_cons_of_mem _ hx); simpa using this)
    have hb1 : isDig (b + 1) = true := by
      rw [isDig_iff] at hbd ⊢
      have h57 : (57 : UInt8).toNat = 57 := rfl
      have := toNat_ne hb57
      rw [UInt8.toNat_add]
      have h1 : (1 : UInt8).toNat = 1 := rfl
      omega
    refine ⟨?_, by simp; omega⟩
    rw [List.all_append, List.all_cons, hb1, List.all_reverse]
    simp only [List.all_eq_true, Bool.and_eq_true, Bool.true_and]
    exact ⟨htd, fun x hx => by rw [(List.mem_replicate.1 hx).2]; rfl⟩

theorem odd_take (l : List UInt8) (n : Nat) (hn : n ≤ l.length) : (decide (0 < (l.take n).length) && ((((l.take n).getD ((l.take n).length - 1) 0).toNat : Int) % 2 == 1)) = oddL l n := by
  unfold oddL
  have h1 : (l.take n).length = n := by rw [List.length_take]; omega
  rw [h1]
  cases n with
  | zero => rfl
  | succ n =>
    have : (l.take (n + 1)).getD (n + 1 - 1) 0 = l.getD (n + 1 - 1) 0 := by simp [List.getD]
    rw [this]

/-- decimal.cut, behind its fork: the kept digits, one more perhaps, made. -/
theorem cut_j0 (neg : Bool) (K R : List UInt8) (way x8 : Int) (s : ByteArray) (e : Int) (hK : K.all isDig = true) (hl : K.length ≤ 9000) (h0 : -9223372036854775808 ≤ x8) (h1 : x8 ≤ 9223372036854775807) :
    Ev (fun k => decimal_cut.j0 k way x8 (B K) (B R) neg s e)
      (BQ (makeL neg (if (!R.isEmpty && upB way (halfL R) (decide (0 < K.length) && (((K.getD (K.length - 1) 0).toNat : Int) % 2 == 1)) neg) = true then bumpL K else K) x8)) := by
  have hb := bump_dig K hK
  refine Ev.step (fun k => by rw [decimal_cut.j0]) ?_
  simp only [up_eq neg K R way (by omega), Option.bind_some]
  split
  · simp only [more_eq K hK (by omega), Option.bind_some, Make_eq neg _ x8 (by omega : (bumpL K).length ≤ 10000) h0 h1]
    exact Ev.now _
  · simp only [Make_eq neg K x8 (by omega) h0 h1, Option.bind_some]
    exact Ev.now _

theorem cut_eq (neg : Bool) (l : List UInt8) (e n way : Int) (hd : l.all isDig = true) (hl : l.length ≤ 2000) (he0 : -200000 ≤ e) (he1 : e ≤ 200000) (hn0 : -1000000 ≤ n) (hn1 : n ≤ l.length) :
    Ev (fun k => decimal_cut.f k neg (B l) e n way) (BQ (makeL neg (keptL neg l n way) (e + l.length - n))) := by
  unfold decimal_cut.f strings_Repeat.f
  have hx8 : wrap64 (wrap64 (e + (l.length : Int)) - n) = e + l.length - n := by rw [w64 (x := e + (l.length : Int)) (by omega) (by omega), w64 (by omega) (by omega)]
  have hmx : mx 0 (mn (wrap64 (-n)) 1) = if n < 0 then 1 else 0 := by
    rw [w64 (x := -n) (by omega) (by omega)]; unfold mx mn
    split <;> split <;> split <;> omega
  simp only [B_size, B_mk, hx8, hmx]
  by_cases h : n < 0
  · simp only [if_pos h]
    simp only [if_pos (show (0 : Int) ≤ 1 ∧ (1 : Int) ≤ 9223372036854775807 ∧ ([48] : List UInt8).length * (1 : Int).toNat ≤ 140737488355328 by decide), Option.bind_some, B_size, B_data, B_mk,
      if_neg (show ¬ (n > 0) by omega), show Lib.repeatL [48] (1 : Int).toNat = [48] from rfl, B_append]
    simp only [if_pos (show ([48] : List UInt8).length + l.length ≤ 9223372036854775807 by simp; omega)]
    have hj := cut_j0 neg [] ([48] ++ l) way (e + l.length - n) (B l) e rfl (by simp) (by omega) (by omega)
    have hk : (if (!([48] ++ l).isEmpty && upB way (halfL ([48] ++ l)) (decide (0 < ([] : List UInt8).length) && (((([] : List UInt8).getD (([] : List UInt8).length - 1) 0).toNat : Int) % 2 == 1)) neg) = true then bumpL [] else []) = keptL neg l n way := by
      unfold keptL
      rw [if_pos h]
      have h1 : halfL ([48] ++ l) = -1 := half_lt 48 l (by decide)
      rw [h1]
      rfl
    rw [hk] at hj
    exact hj
  · simp only [if_neg h]
    simp only [if_pos (show (0 : Int) ≤ 0 ∧ (0 : Int) ≤ 9223372036854775807 ∧ ([48] : List UInt8).length * (0 : Int).toNat ≤ 140737488355328 by decide), Option.bind_some, B_size, B_data, B_mk,
      show Lib.repeatL [48] (0 : Int).toNat = [] from rfl, B_append, List.nil_append]
    simp only [if_pos (show ([] : List UInt8).length + l.length ≤ 9223372036854775807 by simp; omega)]
    obtain ⟨m, rfl⟩ := Int.eq_ofNat_of_zero_le (show 0 ≤ n by omega)
    have hml : m ≤ l.length := by omega
    have hK : keptL neg l (m : Int) way = refKept neg l m way := by unfold keptL; rw [if_neg (by omega)]; rfl
    rw [hK]
    by_cases hm : m = 0
    · subst hm
      simp only [if_neg (show ¬ (((0 : Nat) : Int) > 0) by decide)]
      have hj := cut_j0 neg [] l way (e + l.length - ((0 : Nat) : Int)) (B l) e rfl (by simp) (by omega) (by omega)
      exact hj
    · simp only [if_pos (show ((m : Int) > 0) by omega), if_pos (show (0 : Int) ≤ (m : Int) by omega), if_pos (show (m : Int) ≤ (l.length : Int) by omega), Int.toNat_natCast, B_extract, List.drop_zero]
      have htk : (l.take l.length).drop m = l.drop m := by rw [List.take_length]
      have hlt : (l.take m).length ≤ 9000 := by rw [List.length_take]; omega
      have hj := cut_j0 neg (l.take m) (l.drop m) way (e + l.length - (m : Int)) (B l) e (all_take hd m) hlt (by omega) (by omega)
      rw [odd_take l m hml] at hj
      rw [htk]
      exact hj

end Go.Proofs.YtneeeaafhjaooaaGreatDoor.P
