import Derived.Test.YtfcenlhaepckoaaDoorWWordsn5
import Derived.Test.YtfcenlhaepckoaaDoorWMoren5
import Derived.Test.YtfcenlhaepckoaaDoorP0n5
import Derived.Test.YtfcenlhaepckoaaDoorProg
import Derived.Test.YtfcenlhaepckoaaDoorP1n5
import Derived.Test.YtfcenlhaepckoaaDoorP2n5
import Derived.Test.YtfcenlhaepckoaaDoorP5n5
import Derived.Test.YtfcenlhaepckoaaDoorP7n5
import Derived.Test.YtfcenlhaepckoaaDoorLibsn5
import Derived.Test.YtfcenlhaepckoaaDoorShelfn5
import Derived.Test.YtfcenlhaepckoaaDoorP3n5
import Derived.Test.YtfcenlhaepckoaaDoorP6n5
import Derived.Test.YtfcenlhaepckoaaDoorElibn5
import Derived.Test.YtfcenlhaepckoaaDoorP4n5
import Derived.Test.YtfcenlhaepckoaaDoorQ1n5
import Derived.Test.YtfcenlhaepckoaaDoorS1n5
import Derived.Lib.Strings
import Derived.Lib.Repeat
import Derived.Lib.SlTrimSet
import Derived.Lib.Bytealg
import Derived.OrdersHeld
import Derived.Deep.RegionHeld3
import Derived.Laws.BitsLemmas
import Derived.RowKit
import Derived.Below
import Derived.Deep.Draws
import Derived.Deep.AppendLies
import Derived.Maps.AppendAt
import Derived.OwnWalk
import Derived.Laws.BytesArg
import Derived.Laws.MakeOwn
import Derived.Laws.OwnMore
import Derived.Deep.OwnRows
import Derived.Tactics
import Derived.Lib.ConvBytes
import Derived.Laws.Slices
import Derived.WalkKit
import Derived.KernelRfl
import Derived.RowKit3
import Derived.Deep.LoopGhost
import Derived.Deep.QuietTactic
import Derived.BigQuiet
import Derived.WideLaws
import Derived.Deep.DeepCutAuto
import Derived.Deep.CutBlock
import Derived.Laws.Rows
import Derived.Lib.AppendStr
import Derived.ArgAppend
import Derived.Laws.IdiomCopy
import Derived.Laws.MathBits
import Derived.Lib.Atoi
import Derived.Lib.ItoaNum
namespace Go.Proofs.YtfcenlhaepckoaaDoor.P
set_option linter.all false
open Go.RowKit Go.Proofs.YtfcenlhaepckoaaDoorW.PrintWords Go.Proofs.YtfcenlhaepckoaaDoorW.PrintMore

/-- The text of a list of bytes. -/
def B (l : List UInt8) : ByteArray := ⟨l.toArray⟩
theorem B_eta (s : ByteArray) : B s.data.toList = s := by cases s; simp [B]
@[simp] theorem B_data (l : List UInt8) : (B l).data.toList = l := by simp [B]
@[simp] theorem B_toList (l : List UInt8) : (B l).toList = l := by rw [Lib.toList_data]; exact B_data l
@[simp] theorem B_size (l : List UInt8) : (B l).size = l.length := by rw [Lib.size_eq, B_data]
@[simp] theorem B_append (a b : List UInt8) : B a ++ B b = B (a ++ b) := by
  rw [← B_eta (B a ++ B b)]; congr 1
@[simp] theorem B_extract (l : List UInt8) (i j : Nat) : (B l).extract i j = B ((l.take j).drop i) := by
  rw [← B_eta ((B l).extract i j)]; congr 1
  rw [ByteArray.data_extract, Array.toList_extract, B_data, List.extract_eq_take_drop, List.drop_take]
@[simp] theorem B_bt (l : List UInt8) (i : Int) : bt (B l) i = ((l.getD i.toNat 0).toNat : Int) := by
  unfold bt
  split
  · rename_i h
    rw [B_size] at h
    have h2 : (B l)[i.toNat]'(by rw [B_size]; exact h) = l[i.toNat] := by
      rw [ByteArray.getElem_eq_getElem_data]; simp [B]
    rw [h2, List.getD, List.getElem?_eq_getElem h]; rfl
  · rename_i h
    rw [B_size] at h
    rw [List.getD, List.getElem?_eq_none (by omega)]; rfl
theorem w64 {x : Int} (h0 : -9223372036854775808 ≤ x) (h1 : x ≤ 9223372036854775807) : wrap64 x = x := by unfold wrap64; omega

/-- Is a byte a digit? -/
def isDig (b : UInt8) : Bool := decide (48 ≤ b.toNat) && decide (b.toNat ≤ 57)
theorem isDig_iff (b : UInt8) : isDig b = true ↔ 48 ≤ b.toNat ∧ b.toNat ≤ 57 := by simp [isDig]
/-- Without noughts at the head; at the end. -/
def trimL (l : List UInt8) : List UInt8 := l.dropWhile (· == 48)
theorem trimLeftS_48 (l : List UInt8) : Lib.trimLeftS l [48] = trimL l := by
  unfold Lib.trimLeftS trimL; congr 1; funext b; simp only [List.contains_cons, List.contains_nil, Bool.or_false]
theorem repeatL_one (b : UInt8) (c : Nat) : Lib.repeatL [b] c = List.replicate c b := by
  induction c with
  | zero => rfl
  | succ c ih => simp [Lib.repeatL, ih, List.replicate_succ]
end Go.Proofs.YtfcenlhaepckoaaDoor.P
namespace Go.Proofs.YtfcenlhaepckoaaDoor.P
set_option linter.all false
open Go.RowKit Go.Proofs.YtfcenlhaepckoaaDoorW.PrintWords

/-- All limbs are limbs. -/
def Lim (l : List Int) : Prop := ∀ x ∈ l, 0 ≤ x ∧ x < 4294967296
/-- What a list is worth. -/
def val : List Int → Int
  | [] => 0
  | x :: t => x + 4294967296 * val t
/-- Without noughts at the end. -/
def tr : List Int → List Int
  | [] => []
  | x :: t => if tr t = [] ∧ x = 0 then [] else x :: tr t
/-- The right list of a number. -/
def canN (n : Nat) : List Int := if h : n = 0 then [] else ((n % 4294967296 : Nat) : Int) :: canN (n / 4294967296)
termination_by n
decreasing_by exact Nat.div_lt_self (Nat.pos_of_ne_zero h) (by decide)
def can (z : Int) : List Int := canN z.toNat
def PW (n : Nat) : Int := 4294967296 ^ n

theorem PW_zero : PW 0 = 1 := rfl
theorem PW_succ (n : Nat) : PW (n + 1) = 4294967296 * PW n := by unfold PW; rw [Int.pow_succ, Int.mul_comm]
theorem PW_pos (n : Nat) : 0 < PW n := by
  induction n with
  | zero => decide
  | succ n ih => rw [PW_succ]; omega
theorem PW_add (m n : Nat) : PW (m + n) = PW m * PW n := by unfold PW; exact Int.pow_add _ _ _
theorem PW_le {m n : Nat} (h : m ≤ n) : PW m ≤ PW n := by
  obtain ⟨d, rfl⟩ := Nat.le.dest h
  rw [PW_add]
  have a := PW_pos m
  have b := PW_pos d
  have := Int.mul_le_mul_of_nonneg_left (show (1 : Int) ≤ PW d by omega) (show 0 ≤ PW m by omega)
  omega

theorem Lim.nil : Lim [] := by intro x h; cases h
theorem Lim.cons {x : Int} {t : List Int} : Lim (x :: t) ↔ (0 ≤ x ∧ x < 4294967296) ∧ Lim t := by
  constructor
  · intro h; exact ⟨h x (List.mem_cons_self ..), fun y hy => h y (List.mem_cons_of_mem _ hy)⟩
  · rintro ⟨h1, h2⟩ y hy
    rcases List.mem_cons.1 hy with rfl | hy
    · exact h1
    · exact h2 y hy
theorem Lim.append {a b : List Int} : Lim (a ++ b) ↔ Lim a ∧ Lim b := by
  constructor
  · intro h; exact ⟨fun y hy => h y (List.mem_append_left _ hy), fun y hy => h y (List.mem_append_right _ hy)⟩
  · rintro ⟨h1, h2⟩ y hy
    rcases List.mem_append.1 hy with hy | hy
    · exact h1 y hy
    · exact h2 y hy
theorem Lim.take {a : List Int} (h : Lim a) (n : Nat) : Lim (a.take n) := fun y hy => h y (List.mem_of_mem_take hy)
theorem Lim.drop {a : List Int} (h : Lim a) (n : Nat) : Lim (a.drop n) := fun y hy => h y (List.mem_of_mem_drop hy)
theorem Lim.zeros (n : Nat) : Lim (List.replicate n 0) := by
  intro y hy; rw [List.mem_replicate] at hy; omega
theorem Lim.one {x : Int} (h0 : 0 ≤ x) (h1 : x < 4294967296) : Lim [x] := Lim.cons.2 ⟨⟨h0, h1⟩, Lim.nil⟩
theorem lim_rd {a : List Int} (h : Lim a) (i : Int) : 0 ≤ rd a i ∧ rd a i < 4294967296 := by
  unfold rd
  rw [List.getD]
  cases e : a[i.toNat]? with
  | none => simp
  | some y => exact h y (List.mem_of_getElem? e)
theorem Lim.set {a : List Int} (h : Lim a) (i : Nat) {x : Int} (h0 : 0 ≤ x) (h1 : x < 4294967296) : Lim (a.set i x) := by
  intro y hy
  rcases List.mem_or_eq_of_mem_set hy with hy | rfl
  · exact h y hy
  · exact ⟨h0, h1⟩

theorem val_nonneg {l : List Int} (h : Lim l) : 0 ≤ val l := by
  induction l with
  | nil => exact Int.le_refl _
  | cons x t ih => have := Lim.cons.1 h; have := ih this.2; simp only [val]; omega
theorem val_lt {l : List Int} (h : Lim l) : val l < PW l.length := by
  induction l with
  | nil => decide
  | cons x t ih => have := Lim.cons.1 h; have := ih this.2; simp only [val, List.length_cons, PW_succ]; omega
theorem val_append (a b : List Int) : val (a ++ b) = val a + PW a.length * val b := by
  induction a with
  | nil => simp [val, PW_zero]
  | cons x t ih => simp only [List.cons_append, val, ih, List.length_cons, PW_succ]; grind
theorem val_zeros (n : Nat) : val (List.replicate n 0) = 0 := by
  induction n with
  | zero => rfl
  | succ n ih => simp only [List.replicate_succ, val, ih]; rfl
theorem val_one (x : Int) : val [x] = x := by simp [val]
theorem val_set (l : List Int) (j : Nat) (hj : j < l.length) (y : Int) : val (l.set j y) = val l + PW j * (y - rd l j) := by
  induction l generalizing j with
  | nil => simp at hj
  | cons x t ih =>
    cases j with
    | zero => simp only [List.set_cons_zero, val, PW_zero, rd]; simp; omega
    | succ j =>
      have e : rd (x :: t) ((j + 1 : Nat) : Int) = rd t (j : Int) := by simp [rd]
      rw [e]
      simp only [List.set_cons_succ, val, ih j (by simpa using hj), PW_succ]
      grind

theorem tr_zero (a : List Int) : tr (a ++ [0]) = tr a := by
  induction a with
  | nil => simp [tr]
  | cons x t ih => simp only [List.cons_append, tr, ih]
theorem tr_last (a : List Int) {x : Int} (h : x ≠ 0) : tr (a ++ [x]) = a ++ [x] := by
  induction a with
  | nil => simp [tr, h]
  | cons y t ih => simp only [List.cons_append, tr, ih]; simp
theorem tr_take (l : List Int) : l.take (tr l).length = tr l := by
  induction l with
  | nil => rfl
  | cons x t ih =>
    simp only [tr]
    split
    · rfl
    · simp [ih]
theorem tr_length_le (l : List Int) : (tr l).length ≤ l.length := by
  have := congrArg List.length (tr_take l)
  rw [List.length_take] at this; omega
theorem tr_Lim {l : List Int} (h : Lim l) : Lim (tr l) := by rw [← tr_take]; exact h.take _
theorem tr_val (l : List Int) : val (tr l) = val l := by
  induction l with
  | nil => rfl
  | cons x t ih =>
    simp only [tr]
    split
    · rename_i h; rw [h.1] at ih; simp only [val] at ih ⊢; rw [← ih, h.2]; rfl
    · simp only [val, ih]
theorem canN_zero : canN 0 = [] := by rw [canN]; rfl
theorem canN_pos {n : Nat} (h : n ≠ 0) : canN n = ((n % 4294967296 : Nat) : Int) :: canN (n / 4294967296) := by rw [canN, dif_neg h]
theorem canN_val (n : Nat) : val (canN n) = n := by
  induction n using Nat.strongRecOn with
  | ind n ih =>
    by_cases h : n = 0
    · subst h; rw [canN_zero]; rfl
    · rw [canN_pos h, val, ih _ (Nat.div_lt_self (Nat.pos_of_ne_zero h) (by decide))]; omega
theorem canN_Lim (n : Nat) : Lim (canN n) := by
  induction n using Nat.strongRecOn with
  | ind n ih =>
    by_cases h : n = 0
    · subst h; rw [canN_zero]; exact Lim.nil
    · rw [canN_pos h]; exact Lim.cons.2 ⟨by omega, ih _ (Nat.div_lt_self (Nat.pos_of_ne_zero h) (by decide))⟩
theorem can_val {z : Int} (h : 0 ≤ z) : val (can z) = z := by unfold can; rw [canN_val]; omega
theorem can_Lim (z : Int) : Lim (can z) := canN_Lim _
theorem can_zero : can 0 = [] := canN_zero
/-- The right list of a list's worth. -/
theorem can_of {l : List Int} (h : Lim l) : can (val l) = tr l := by
  induction l with
  | nil => exact can_zero
  | cons x t ih =>
    obtain ⟨hx, ht⟩ := Lim.cons.1 h
    have hv := val_nonneg ht
    have ih := ih ht
    unfold can at ih ⊢
    simp only [val, tr]
    by_cases h0 : x + 4294967296 * val t = 0
    · have hx0 : x = 0 := by omega
      have hv0 : val t = 0 := by omega
      rw [hv0] at ih
      rw [h0]
      rw [show (0 : Int).toNat = 0 from rfl, canN_zero] at ih ⊢
      rw [if_pos ⟨ih.symm, hx0⟩]
    · rw [canN_pos (by omega), show (x + 4294967296 * val t).toNat / 4294967296 = (val t).toNat by omega, ih, show (((x + 4294967296 * val t).toNat % 4294967296 : Nat) : Int) = x by omega]
      rw [if_neg]
      rintro ⟨q1, q2⟩
      have := tr_val t
      rw [q1] at this
      simp only [val] at this
      omega
/-- How long a right list is. -/
theorem can_length {z : Int} (h : 0 ≤ z) (n : Nat) : (can z).length ≤ n ↔ z < PW n := by
  constructor
  · intro hl
    have := val_lt (can_Lim z)
    rw [can_val h] at this
    have := PW_le hl
    omega
  · unfold can
    generalize hn : z.toNat = m
    have : z = m := by omega
    subst this
    clear h hn
    induction n generalizing m with
    | zero =>
      intro hm
      have : m = 0 := by rw [PW_zero] at hm; omega
      subst this; rw [canN_zero]; exact Nat.le_refl _
    | succ n ih =>
      intro hm
      by_cases h0 : m = 0
      · subst h0; rw [canN_zero]; exact Nat.zero_le _
      · rw [canN_pos h0, List.length_cons]
        rw [PW_succ] at hm
        have := ih (m / 4294967296) (by omega)
        omega
end Go.Proofs.YtfcenlhaepckoaaDoor.P
namespace Go.Proofs.YtfcenlhaepckoaaDoor.P
set_option linter.all false
open Go.RowKit Go.Proofs.YtfcenlhaepckoaaDoorW.PrintWords Go.Proofs.YtfcenlhaepckoaaDoorW.PrintLast Go.Proofs.YtfcenlhaepckoaaDoorW.PrintMore

theorem take_rd (l : List Int) (i : Nat) (h : i < l.length) : l.take (i + 1) = l.take i ++ [rd l (i : Int)] := by
  rw [List.take_succ_eq_append_getElem h]
  congr 2
  unfold rd
  rw [Int.toNat_natCast, List.getD, List.getElem?_eq_getElem h]; rfl
theorem w64p {i : Nat} (h : i ≤ 1000000) : wrap64 (((i + 1 : Nat) : Int) - 1) = (i : Int) := by rw [w64 (by omega) (by omega)]; omega
theorem w64s {i : Nat} (h : i ≤ 1000000000) : wrap64 ((i : Int) + 1) = ((i + 1 : Nat) : Int) := by rw [w64 (by omega) (by omega)]; rfl

theorem right_loop (l : List Int) (hl : l.length ≤ 1000000) : ∀ i, i ≤ l.length → Ev (fun k => nat_right.l0 k l (i : Int)) ((tr (l.take i)).length : Int) := by
  intro i
  induction i with
  | zero =>
    intro _
    refine Ev.step (fun k => by rw [nat_right.l0]) ?_
    simp only [if_neg (show ¬ (((0 : Nat) : Int) > 0) by decide)]
    exact Ev.now _
  | succ i ih =>
    intro hi
    refine Ev.step (fun k => by rw [nat_right.l0]) ?_
    simp only [w64p (show i ≤ 1000000 by omega), if_pos (show ((i + 1 : Nat) : Int) > 0 by omega), if_pos (show 0 ≤ (i : Int) by omega), if_pos (show (i : Int) < (l.length : Int) by omega)]
    rw [take_rd l i (by omega)]
    by_cases h0 : rd l (i : Int) = 0
    · simp only [h0, if_true]
      rw [tr_zero]
      exact ih (by omega)
    · simp only [if_neg h0]
      rw [tr_last _ h0, List.length_append, List.length_take, Nat.min_eq_left (by omega)]
      exact Ev.now _
theorem right_ev (l : List Int) (hl : l.length ≤ 1000000) : Ev (fun k => nat_right.f k l) ((tr l).length : Int) := by
  have := right_loop l hl l.length (Nat.le_refl _)
  rw [List.take_length] at this
  exact this
theorem Trim_ev (l : List Int) (hl : l.length ≤ 1000000) : Ev (fun k => nat_Trim.f k l) (tr l) := by
  unfold nat_Trim.f
  refine (right_ev l hl).bind ?_
  have h := tr_length_le l
  simp only [if_pos (show (0 : Int) ≤ ((tr l).length : Int) by omega), Int.toNat_natCast, if_pos (show (tr l).length ≤ 70368744177664 by omega)]
  have e : overlay_ (List.replicate (tr l).length 0) l = tr l := by
    unfold overlay_
    rw [List.length_replicate, Nat.min_eq_right h, tr_take, List.drop_of_length_le (by simp), List.append_nil]
  rw [e]
  exact Ev.now _

/-- Is a number too big? -/
def big (z : Int) : Bool := decide ((can z).length > 256)
theorem big_iff {z : Int} (h : 0 ≤ z) : big z = true ↔ PW 256 ≤ z := by
  unfold big
  have := can_length h 256
  rw [decide_eq_true_iff]; omega
/-- An answer, if it is not too big. -/
def fitR (z : Int) : List Int × Int := if big z = true then ([], 2) else (can z, 0)

theorem over_loop (ls : List (List Int)) (hl : ∀ l ∈ ls, l.length ≤ 1000000) (hn : ls.length ≤ 1000) : ∀ d i, i + d = ls.length →
    Ev (fun k => nat_over.l0 k ls (ls.length : Int) (i : Int)) ((ls.drop i).any fun l => decide ((tr l).length > 256)) := by
  intro d
  induction d with
  | zero =>
    intro i hi
    refine Ev.step (fun k => by rw [nat_over.l0]) ?_
    simp only [if_neg (show ¬ ((i : Int) < (ls.length : Int)) by omega)]
    rw [List.drop_of_length_le (by omega)]
    exact Ev.now _
  | succ d ih =>
    intro i hi
    have hlt : i < ls.length := by omega
    refine Ev.step (fun k => by rw [nat_over.l0]) ?_
    have e : rd_L1 ls (i : Int) = ls[i] := by
      unfold rd_L1
      rw [Int.toNat_natCast, List.getD, List.getElem?_eq_getElem hlt]; rfl
    simp only [e, if_pos (show ((i : Int) < (ls.length : Int)) by omega), if_pos (show 0 ≤ (i : Int) by omega)]
    refine (right_ev _ (hl _ (List.getElem_mem hlt))).bind ?_
    rw [List.drop_eq_getElem_cons hlt, List.any_cons]
    by_cases h : (tr ls[i]).length > 256
    · simp only [if_pos (show (((tr ls[i]).length : Int) > 256) by omega), h, decide_true, Bool.true_or]
      exact Ev.now _
    · simp only [if_neg (show ¬ (((tr ls[i]).length : Int) > 256) by omega), h, decide_false, Bool.false_or, w64s (show i ≤ 1000000000 by omega)]
      exact ih (i + 1) (by omega)
theorem over2_ev (a b : List Int) (ha : a.length ≤ 1000000) (hb : b.length ≤ 1000000) (la : Lim a) (lb : Lim b) : Ev (fun k => nat_over.f k [a, b]) (big (val a) || big (val b)) := by
  have := over_loop [a, b] (by simp [ha, hb]) (by simp) 2 0 rfl
  simp only [List.drop_zero, List.any_cons, List.any_nil, Bool.or_false] at this
  unfold big
  rw [can_of la, can_of lb]
  exact this
theorem over1_ev (a : List Int) (ha : a.length ≤ 1000000) (la : Lim a) : Ev (fun k => nat_over.f k [a]) (big (val a)) := by
  have := over_loop [a] (by simp [ha]) (by simp) 1 0 rfl
  simp only [List.drop_zero, List.any_cons, List.any_nil, Bool.or_false] at this
  unfold big
  rw [can_of la]
  exact this
theorem fits_ev (a : List Int) (ha : a.length ≤ 1000000) (la : Lim a) : Ev (fun k => nat_fits.f k a) (fitR (val a)) := by
  unfold nat_fits.f fitR big
  refine (right_ev a ha).bind ?_
  have h := tr_length_le a
  simp only [if_pos (show (0 : Int) ≤ ((tr a).length : Int) by omega), if_pos (show ((tr a).length : Int) ≤ (a.length : Int) by omega), Option.bind_some, Int.toNat_natCast, tr_take, can_of la]
  by_cases h2 : (tr a).length > 256
  · simp only [if_pos (show (((tr a).length : Int) > 256) by omega), h2, decide_true, if_true]; exact Ev.now _
  · simp only [if_neg (show ¬ (((tr a).length : Int) > 256) by omega), h2, decide_false, Bool.false_eq_true, if_false]; exact Ev.now _
theorem Of_ev (v : Int) (h0 : 0 ≤ v) (h1 : v < 18446744073709551616) : Ev (fun k => nat_Of.f k v) (can v) := by
  unfold nat_Of.f
  have hv : val [v % 4294967296, v / 4294967296 % 4294967296] = v := by simp only [val]; omega
  have hL : Lim [v % 4294967296, v / 4294967296 % 4294967296] := Lim.cons.2 ⟨by omega, Lim.one (by omega) (by omega)⟩
  have := Trim_ev [v % 4294967296, v / 4294967296 % 4294967296] (by simp)
  rw [← can_of hL, hv] at this
  exact this.bind (Ev.now _)

theorem same_loop (l m : List Int) (hl : l.length ≤ 1000000) (he : l.length = m.length) : ∀ d i, i + d = l.length →
    Ev (fun k => tabardlaw1_same.l0 k l m (i : Int)) (l.drop i == m.drop i) := by
  intro d
  induction d with
  | zero =>
    intro i hi
    refine Ev.step (fun k => by rw [tabardlaw1_same.l0]) ?_
    simp only [if_neg (show ¬ ((i : Int) < (l.length : Int)) by omega)]
    rw [List.drop_of_length_le (by omega), List.drop_of_length_le (by omega)]
    exact Ev.now _
  | succ d ih =>
    intro i hi
    have h1 : i < l.length := by omega
    have h2 : i < m.length := by omega
    refine Ev.step (fun k => by rw [tabardlaw1_same.l0]) ?_
    have e1 : rd l (i : Int) = l[i] := by unfold rd; rw [Int.toNat_natCast, List.getD, List.getElem?_eq_getElem h1]; rfl
    have e2 : rd m (i : Int) = m[i] := by unfold rd; rw [Int.toNat_natCast, List.getD, List.getElem?_eq_getElem h2]; rfl
    simp only [e1, e2, if_pos (show ((i : Int) < (l.length : Int)) by omega), if_pos (show 0 ≤ (i : Int) by omega), if_pos (show ((i : Int) < (m.length : Int)) by omega), w64s (show i ≤ 1000000000 by omega)]
    rw [List.drop_eq_getElem_cons h1, List.drop_eq_getElem_cons h2, List.cons_beq_cons]
    by_cases h : l[i] = m[i]
    · simp only [h, if_true, beq_self_eq_true, Bool.true_and]
      exact ih (i + 1) (by omega)
    · simp only [if_neg h, beq_eq_false_iff_ne.2 h, Bool.false_and]
      exact Ev.now _
theorem same_ev (l m : List Int) (hl : l.length ≤ 1000000) : Ev (fun k => tabardlaw1_same.f k l m) (l == m) := by
  unfold tabardlaw1_same.f
  by_cases h : l.length = m.length
  · simp only [if_pos (show (l.length : Int) = (m.length : Int) by omega)]
    have := same_loop l m hl h l.length 0 (by omega)
    simpa using this
  · simp only [if_neg (show ¬ ((l.length : Int) = (m.length : Int)) by omega)]
    have : (l == m) = false := beq_eq_false_iff_ne.2 (fun e => h (congrArg List.length e))
    rw [this]
    exact Ev.now _
end Go.Proofs.YtfcenlhaepckoaaDoor.P
namespace Go.Proofs.YtfcenlhaepckoaaDoor.P
set_option linter.all false
set_option linter.unusedSimpArgs false
open Go.RowKit Go.Proofs.YtfcenlhaepckoaaDoorW.PrintWords Go.Proofs.YtfcenlhaepckoaaDoorW.PrintLast Go.Proofs.YtfcenlhaepckoaaDoorW.PrintMore

theorem wraps64 (n : Int) (h0 : 0 ≤ n) (h1 : n < 2 ^ 64) : IntKind.u64.wrap n = n := by rw [IntKind.wrap_u64]; omega
theorem u64w {n : Int} (h0 : 0 ≤ n) (h1 : n < 18446744073709551616) : IntKind.u64.wrap n = n := wraps64 n h0 (by omega)
theorem orHi {x y : Int} (hx0 : 0 ≤ x) (hx : x < 4294967296) (hy0 : 0 ≤ y) (hy : y < 4294967296) : bits .or .u64 (y * 4294967296) x = y * 4294967296 + x :=
  bits_join .u64 64 (by decide) wraps64 32 (y * 4294967296) x (by omega) (by omega) (by omega) hx0 (by omega) (by omega)
theorem or_comm64 {x y : Int} (hx0 : 0 ≤ x) (hx : x < 18446744073709551616) (hy0 : 0 ≤ y) (hy : y < 18446744073709551616) : bits .or .u64 x y = bits .or .u64 y x := by
  obtain ⟨a, rfl⟩ := Int.eq_ofNat_of_zero_le hx0
  obtain ⟨b, rfl⟩ := Int.eq_ofNat_of_zero_le hy0
  rw [(bits_nat .u64 64 (by decide) wraps64 a b (by omega) (by omega)).2, (bits_nat .u64 64 (by decide) wraps64 b a (by omega) (by omega)).2, Nat.or_comm]
theorem orLo {x y : Int} (hx0 : 0 ≤ x) (hx : x < 4294967296) (hy0 : 0 ≤ y) (hy : y < 4294967296) : bits .or .u64 x (y * 4294967296) = x + y * 4294967296 := by
  rw [or_comm64 hx0 (by omega) (by omega) (by omega), orHi hx0 hx hy0 hy]; omega

/-! ### Value -/
def valueR (z : Int) : Int × Bool := if (can z).length > 2 then (0, false) else (z, true)
theorem shl0 {x : Int} (h0 : 0 ≤ x) (h1 : x < 4294967296) : shl .u64 (IntKind.u64.wrap x) (wrap64 (32 * 0)) = x := by
  rw [u64w h0 (by omega), w64 (by omega) (by omega)]
  show IntKind.u64.wrap (x * 2 ^ min (Int.toNat 0) 64) = x
  rw [show min (Int.toNat 0) 64 = 0 from rfl, Int.pow_zero, Int.mul_one, u64w h0 (by omega)]
theorem shl32 {x : Int} (h0 : 0 ≤ x) (h1 : x < 4294967296) : shl .u64 (IntKind.u64.wrap x) (wrap64 (32 * 1)) = x * 4294967296 := by
  rw [u64w h0 (by omega), w64 (by omega) (by omega)]
  show IntKind.u64.wrap (x * 2 ^ min (Int.toNat 32) 64) = _
  rw [show min (Int.toNat 32) 64 = 32 from rfl, show (2 : Int) ^ 32 = 4294967296 by decide, u64w (by omega) (by omega)]
theorem Value_ev (a : List Int) (ha : a.length ≤ 1000000) (la : Lim a) : Ev (fun k => nat_Value.f k a) (valueR (val a)) := by
  unfold nat_Value.f valueR
  refine (right_ev a ha).bind ?_
  have h := tr_length_le a
  simp only [if_pos (show (0 : Int) ≤ ((tr a).length : Int) by omega), if_pos (show ((tr a).length : Int) ≤ (a.length : Int) by omega), Option.bind_some, Int.toNat_natCast, tr_take, can_of la]
  have hv := tr_val a
  have hL := tr_Lim la
  rw [← hv]
  generalize tr a = l at hL
  clear h hv
  by_cases h2 : l.length > 2
  · simp only [if_pos (show (l.length : Int) > 2 by omega), if_pos h2]; exact Ev.now _
  · simp only [if_neg (show ¬ ((l.length : Int) > 2) by omega), if_neg h2]
    match l, hL, h2 with
    | [], _, _ =>
      refine Ev.step (fun k => by rw [nat_Value.l0]) ?_
      simp only [List.length_nil, if_neg (show ¬ ((0 : Int) < ((0 : Nat) : Int)) by decide)]
      exact Ev.now _
    | [x], hL, _ =>
      have hx := (Lim.cons.1 hL).1
      refine Ev.step (fun k => by rw [nat_Value.l0]) ?_
      have e : rd [x] 0 = x := rfl
      have e2 : bits .or .u64 0 x = x := by have := orHi hx.1 hx.2 (Int.le_refl 0) (by decide); simpa using this
      simp only [List.length_singleton, if_pos (show ((0 : Int) < ((1 : Nat) : Int)) by decide), if_pos (Int.le_refl 0), e, shl0 hx.1 hx.2, if_pos (show (0 : Int) ≤ wrap64 (32 * 0) by unfold wrap64; omega), e2]
      refine Ev.step (fun k => by rw [nat_Value.l0]) ?_
      simp only [if_neg (show ¬ (wrap64 (0 + 1) < ((1 : Nat) : Int)) by unfold wrap64; omega), val_one]
      exact Ev.now _
    | [x, y], hL, _ =>
      have hx := (Lim.cons.1 hL).1
      have hy := (Lim.cons.1 (Lim.cons.1 hL).2).1
      refine Ev.step (fun k => by rw [nat_Value.l0]) ?_
      have e : rd [x, y] 0 = x := rfl
      have e' : rd [x, y] 1 = y := rfl
      have e2 : bits .or .u64 0 x = x := by have := orHi hx.1 hx.2 (Int.le_refl 0) (by decide); simpa using this
      have e1 : ([x, y] : List Int).length = 2 := rfl
      simp only [e1, if_pos (show ((0 : Int) < ((2 : Nat) : Int)) by decide), if_pos (Int.le_refl 0), e, shl0 hx.1 hx.2, if_pos (show (0 : Int) ≤ wrap64 (32 * 0) by unfold wrap64; omega), e2]
      refine Ev.step (fun k => by rw [nat_Value.l0]) ?_
      simp only [e1, show wrap64 (0 + 1) = 1 by unfold wrap64; omega, if_pos (show ((1 : Int) < ((2 : Nat) : Int)) by decide), if_pos (show (0 : Int) ≤ 1 by decide), e', shl32 hy.1 hy.2, if_pos (show (0 : Int) ≤ wrap64 (32 * 1) by unfold wrap64; omega), orLo hx.1 hx.2 hy.1 hy.2]
      refine Ev.step (fun k => by rw [nat_Value.l0]) ?_
      simp only [if_neg (show ¬ (wrap64 (1 + 1) < ((2 : Nat) : Int)) by unfold wrap64; omega)]
      have : val [x, y] = x + y * 4294967296 := by simp only [val]; omega
      rw [this]
      exact Ev.now _
    | _ :: _ :: _ :: _, _, h => simp at h

/-! ### Len -/
def lenR (z : Int) : Int := if can z = [] then 0 else 32 * (((can z).length : Int) - 1) + Lib.bitLen (rd (can z) (((can z).length : Int) - 1)).toNat
theorem bitLenAux_le : ∀ (f j n : Nat), n < 2 ^ j → Lib.bitLenAux f n ≤ j := by
  intro f
  induction f with
  | zero => intro j n _; exact Nat.zero_le _
  | succ f ih =>
    intro j n h
    rw [Lib.bitLenAux]
    split
    · exact Nat.zero_le _
    · rename_i h0
      cases j with
      | zero => rw [Nat.pow_zero] at h; omega
      | succ j =>
        rw [Nat.pow_succ] at h
        have := ih j (n / 2) (by omega)
        omega
theorem bitLen_le (n : Nat) (h : n < 4294967296) : Lib.bitLen n ≤ 32 := bitLenAux_le 64 32 n (by simpa using h)
theorem Len_ev (a : List Int) (ha : a.length ≤ 1000000) (la : Lim a) : Ev (fun k => nat_Len.f k a) (lenR (val a)) := by
  unfold nat_Len.f lenR
  refine (right_ev a ha).bind ?_
  have h := tr_length_le a
  simp only [if_pos (show (0 : Int) ≤ ((tr a).length : Int) by omega), if_pos (show ((tr a).length : Int) ≤ (a.length : Int) by omega), Option.bind_some, Int.toNat_natCast, tr_take, can_of la]
  have hL := tr_Lim la
  generalize tr a = l at hL h
  by_cases h0 : l = []
  · subst h0; simp only [List.length_nil, if_true]; exact Ev.now _
  · have hp := List.length_pos_iff.2 h0
    have hw : wrap64 ((l.length : Int) - 1) = (l.length : Int) - 1 := w64 (by omega) (by omega)
    have hr := lim_rd hL ((l.length : Int) - 1)
    have hb := bitLen_le (rd l ((l.length : Int) - 1)).toNat (by omega)
    simp only [if_neg h0, if_neg (show ¬ ((l.length : Int) = 0) by omega), hw, if_pos (show (0 : Int) ≤ (l.length : Int) - 1 by omega), if_pos (show (l.length : Int) - 1 < (l.length : Int) by omega)]
    unfold bits_Len32.f
    rw [if_pos ⟨hr.1, by omega⟩]
    simp only [Option.bind_some]
    rw [w64 (x := 32 * ((l.length : Int) - 1)) (by omega) (by omega), w64 (by omega) (by omega)]
    exact Ev.now _
/-! ### Cmp -/
def cmpR (x y : Int) : Int := if x < y then -1 else if x > y then 1 else 0
theorem val_take_lt {l : List Int} (h : Lim l) (i : Nat) : 0 ≤ val (l.take i) ∧ val (l.take i) < PW i := by
  refine ⟨val_nonneg (h.take i), ?_⟩
  have := val_lt (h.take i)
  have := PW_le (show (l.take i).length ≤ i by rw [List.length_take]; omega)
  omega
theorem val_take_succ (l : List Int) (i : Nat) (h : i < l.length) : val (l.take (i + 1)) = val (l.take i) + PW i * rd l (i : Int) := by
  rw [take_rd l i h, val_append, val_one, List.length_take, Nat.min_eq_left (by omega)]
theorem cmp_step {l m : List Int} (hl : Lim l) (hm : Lim m) (i : Nat) (h1 : i < l.length) (h2 : i < m.length) :
    cmpR (val (l.take (i + 1))) (val (m.take (i + 1))) = if rd l (i : Int) < rd m (i : Int) then -1 else if rd l (i : Int) > rd m (i : Int) then 1 else cmpR (val (l.take i)) (val (m.take i)) := by
  rw [val_take_succ l i h1, val_take_succ m i h2]
  have a := val_take_lt hl i
  have b := val_take_lt hm i
  have p := PW_pos i
  generalize val (l.take i) = u at a ⊢
  generalize val (m.take i) = v at b ⊢
  generalize rd l (i : Int) = x
  generalize rd m (i : Int) = y
  generalize PW i = q at a b p ⊢
  unfold cmpR
  by_cases c1 : x < y
  · rw [if_pos c1, if_pos]
    have := Int.mul_le_mul_of_nonneg_left (show x + 1 ≤ y by omega) (show 0 ≤ q by omega)
    rw [Int.mul_add] at this; omega
  · rw [if_neg c1]
    by_cases c2 : x > y
    · have := Int.mul_le_mul_of_nonneg_left (show y + 1 ≤ x by omega) (show 0 ≤ q by omega)
      rw [Int.mul_add] at this
      rw [if_pos c2, if_neg (by omega), if_pos (by omega)]
    · have : x = y := by omega
      subst this
      rw [if_neg c2]
      by_cases c3 : u < v
      · rw [if_pos c3, if_pos (by omega)]
      · rw [if_neg c3, if_neg (by omega)]
        by_cases c4 : u > v
        · rw [if_pos c4, if_pos (by omega)]
        · rw [if_neg c4, if_neg (by omega)]
theorem Cmp_loop (l m : List Int) (hl : Lim l) (hm : Lim m) (hn : l.length = m.length) (hs : l.length ≤ 1000000) : ∀ d i, i + d = l.length →
    Ev (fun k => nat_Cmp.l0 k l m (l.length : Int) (i : Int)) (cmpR (val (l.take d)) (val (m.take d))) := by
  intro d
  induction d with
  | zero =>
    intro i hi
    refine Ev.step (fun k => by rw [nat_Cmp.l0]) ?_
    simp only [if_neg (show ¬ ((i : Int) < (l.length : Int)) by omega), List.take_zero]
    exact Ev.now _
  | succ d ih =>
    intro i hi
    refine Ev.step (fun k => by rw [nat_Cmp.l0]) ?_
    have e : wrap64 (wrap64 ((l.length : Int) - 1) - (i : Int)) = (d : Int) := by rw [w64 (x := (l.length : Int) - 1) (by omega) (by omega), w64 (by omega) (by omega)]; omega
    simp only [e, if_pos (show ((i : Int) < (l.length : Int)) by omega), if_pos (show (0 : Int) ≤ (d : Int) by omega), if_pos (show (d : Int) < (l.length : Int) by omega), if_pos (show (d : Int) < (m.length : Int) by omega)]
    rw [cmp_step hl hm d (by omega) (by omega)]
    by_cases c1 : rd l (d : Int) < rd m (d : Int)
    · simp only [if_pos c1]; exact Ev.now _
    · simp only [if_neg c1]
      by_cases c2 : rd l (d : Int) > rd m (d : Int)
      · simp only [if_pos c2]; exact Ev.now _
      · simp only [if_neg c2, w64s (show i ≤ 1000000000 by omega)]
        exact ih (i + 1) (by omega)
theorem cmp_shorter {x y : Int} (hx : 0 ≤ x) (hy : 0 ≤ y) (h : (can x).length < (can y).length) : x < y := by
  have a := (can_length hx (can x).length).1 (Nat.le_refl _)
  have b : ¬ (y < PW (can x).length) := fun q => by have := (can_length hy _).2 q; omega
  omega
theorem Cmp_ev (a b : List Int) (ha : a.length ≤ 1000000) (hb : b.length ≤ 1000000) (la : Lim a) (lb : Lim b) : Ev (fun k => nat_Cmp.f k a b) (cmpR (val a) (val b)) := by
  unfold nat_Cmp.f
  refine (right_ev a ha).bind ?_
  have h1 := tr_length_le a
  have h2 := tr_length_le b
  simp only [if_pos (show (0 : Int) ≤ ((tr a).length : Int) by omega), if_pos (show ((tr a).length : Int) ≤ (a.length : Int) by omega), Option.bind_some, Int.toNat_natCast, tr_take]
  refine (right_ev b hb).bind ?_
  simp only [if_pos (show (0 : Int) ≤ ((tr b).length : Int) by omega), if_pos (show ((tr b).length : Int) ≤ (b.length : Int) by omega), Option.bind_some, Int.toNat_natCast, tr_take]
  by_cases c : (tr a).length = (tr b).length
  · simp only [if_pos (show ((tr a).length : Int) = ((tr b).length : Int) by omega)]
    have := Cmp_loop (tr a) (tr b) (tr_Lim la) (tr_Lim lb) c (by omega) (tr a).length 0 (by omega)
    rw [List.take_length, c, List.take_length, tr_val, tr_val, ← c] at this
    exact this
  · simp only [if_neg (show ¬ (((tr a).length : Int) = ((tr b).length : Int)) by omega)]
    have va := val_nonneg la
    have vb := val_nonneg lb
    rw [← can_of la, ← can_of lb] at c ⊢
    by_cases c2 : (can (val a)).length < (can (val b)).length
    · simp only [if_pos (show ((can (val a)).length : Int) < ((can (val b)).length : Int) by omega)]
      have := cmp_shorter va vb c2
      unfold cmpR; rw [if_pos this]; exact Ev.now _
    · simp only [if_neg (show ¬ (((can (val a)).length : Int) < ((can (val b)).length : Int)) by omega)]
      have := cmp_shorter vb va (by omega)
      unfold cmpR; rw [if_neg (by omega), if_pos (by omega)]; exact Ev.now _
end Go.Proofs.YtfcenlhaepckoaaDoor.P
namespace Go.Proofs.YtfcenlhaepckoaaDoor.P
set_option linter.all false
set_option linter.unusedSimpArgs false
open Go.RowKit Go.Proofs.YtfcenlhaepckoaaDoorW.PrintWords Go.Proofs.YtfcenlhaepckoaaDoorW.PrintLast Go.Proofs.YtfcenlhaepckoaaDoorW.PrintMore

theorem rd_set_ne (l : List Int) (i j : Nat) (v : Int) (h : i ≠ j) : rd (l.set i v) (j : Int) = rd l (j : Int) := by
  unfold rd; rw [Int.toNat_natCast, List.getD, List.getD, List.getElem?_set_ne h]
theorem rd_set_eq (l : List Int) (i : Nat) (v : Int) (h : i < l.length) : rd (l.set i v) (i : Int) = v := by
  unfold rd; rw [Int.toNat_natCast, List.getD, List.getElem?_set_self h]; rfl
theorem rd_zeros (n : Nat) (i : Int) : rd (List.replicate n 0) i = 0 := by
  unfold rd; rw [List.getD, List.getElem?_replicate]; split <;> rfl
theorem w64add {i k : Nat} (h : i + k ≤ 1000000000) : wrap64 ((i : Int) + (k : Int)) = ((i + k : Nat) : Int) := by rw [w64 (by omega) (by omega)]; rfl
theorem mul_arith {X q r t a b o c V u v w B : Int} (h : X + u * c = V + v * (a * q)) (e : r + B * t = a * b + o + c) (hu : u = v * w) : X + u * (r - o) + B * u * t = V + v * (a * (q + w * b)) := by
  have : u * (r + B * t) = u * (a * b + o + c) := by rw [e]
  subst hu
  grind
theorem mul_in {p q : List Int} (hp : Lim p) (hq : Lim q) {L i k : Nat} {x6 : List Int} {c V : Int} (hi : i < p.length) (hk : k < q.length) (hL : p.length + q.length ≤ L)
    (hx : x6.length = L) (lx : Lim x6) (hc : 0 ≤ c ∧ c < 4294967296) (hz : ∀ j : Nat, i + q.length ≤ j → rd x6 (j : Int) = 0) (hv : val x6 + PW (i + k) * c = V + PW i * (rd p (i : Int) * val (q.take k))) :
    (0 ≤ rd p (i : Int) * rd q (k : Int) + rd x6 ((i + k : Nat) : Int) + c ∧ rd p (i : Int) * rd q (k : Int) + rd x6 ((i + k : Nat) : Int) + c < 18446744073709551616) ∧
    (0 ≤ rd p (i : Int) * rd q (k : Int) ∧ rd p (i : Int) * rd q (k : Int) < 18446744073709551616) ∧
    (0 ≤ rd p (i : Int) * rd q (k : Int) + rd x6 ((i + k : Nat) : Int) ∧ rd p (i : Int) * rd q (k : Int) + rd x6 ((i + k : Nat) : Int) < 18446744073709551616) ∧
    (0 ≤ (rd p (i : Int) * rd q (k : Int) + rd x6 ((i + k : Nat) : Int) + c) / 4294967296 ∧ (rd p (i : Int) * rd q (k : Int) + rd x6 ((i + k : Nat) : Int) + c) / 4294967296 < 4294967296) ∧
    (x6.set (i + k) ((rd p (i : Int) * rd q (k : Int) + rd x6 ((i + k : Nat) : Int) + c) % 4294967296)).length = L ∧
    Lim (x6.set (i + k) ((rd p (i : Int) * rd q (k : Int) + rd x6 ((i + k : Nat) : Int) + c) % 4294967296)) ∧
    (∀ j : Nat, i + q.length ≤ j → rd (x6.set (i + k) ((rd p (i : Int) * rd q (k : Int) + rd x6 ((i + k : Nat) : Int) + c) % 4294967296)) (j : Int) = 0) ∧
    val (x6.set (i + k) ((rd p (i : Int) * rd q (k : Int) + rd x6 ((i + k : Nat) : Int) + c) % 4294967296)) + PW (i + (k + 1)) * ((rd p (i : Int) * rd q (k : Int) + rd x6 ((i + k : Nat) : Int) + c) / 4294967296) = V + PW i * (rd p (i : Int) * val (q.take (k + 1))) := by
  have ha := lim_rd hp (i : Int)
  have hb := lim_rd hq (k : Int)
  have ho := lim_rd lx ((i + k : Nat) : Int)
  have hab := prod_bound (rd p (i : Int)) (rd q (k : Int)) ha.1 (by omega) hb.1 (by omega)
  refine ⟨by omega, by omega, by omega, by omega, by rw [List.length_set]; exact hx, lx.set _ (by omega) (by omega), ?_, ?_⟩
  · intro j hj
    rw [rd_set_ne _ _ _ _ (by omega)]
    exact hz j hj
  · rw [val_set _ _ (by omega), val_take_succ q k hk, ← Nat.add_assoc, PW_succ]
    refine mul_arith (w := PW k) hv ?_ (PW_add i k)
    omega
theorem mul_out {p q : List Int} {L i : Nat} {x6 : List Int} {c V : Int} (hi : i < p.length) (hL : p.length + q.length ≤ L)
    (hx : x6.length = L) (lx : Lim x6) (hc : 0 ≤ c ∧ c < 4294967296) (hz : ∀ j : Nat, i + q.length ≤ j → rd x6 (j : Int) = 0) (hv : val x6 + PW (i + q.length) * c = V + PW i * (rd p (i : Int) * val (q.take q.length))) :
    (x6.set (i + q.length) c).length = L ∧ Lim (x6.set (i + q.length) c) ∧ (∀ j : Nat, i + 1 + q.length ≤ j → rd (x6.set (i + q.length) c) (j : Int) = 0) ∧
    val (x6.set (i + q.length) c) = V + PW i * (rd p (i : Int) * val q) := by
  refine ⟨by rw [List.length_set]; exact hx, lx.set _ hc.1 hc.2, ?_, ?_⟩
  · intro j hj
    rw [rd_set_ne _ _ _ _ (by omega)]
    exact hz j (by omega)
  · rw [val_set _ _ (by omega), hz _ (Nat.le_refl _), Int.sub_zero, hv, List.take_length]

theorem Mul_inner (p q : List Int) (hp : Lim p) (hq : Lim q) (L : Nat) (hL : p.length + q.length ≤ L) (hL2 : L ≤ 1000000) (i : Nat) (hi : i < p.length) (V : Int) (R : List Int × Int)
    (H : ∀ x6 : List Int, x6.length = L → Lim x6 → (∀ j : Nat, i + 1 + q.length ≤ j → rd x6 (j : Int) = 0) → val x6 = V + PW i * (rd p (i : Int) * val q) → Ev (fun k => nat_Mul.l0 k p q x6 (p.length : Int) ((i + 1 : Nat) : Int)) R) :
    ∀ d k x6 c, k + d = q.length → x6.length = L → Lim x6 → (0 ≤ c ∧ c < 4294967296) → (∀ j : Nat, i + q.length ≤ j → rd x6 (j : Int) = 0) → val x6 + PW (i + k) * c = V + PW i * (rd p (i : Int) * val (q.take k)) →
    Ev (fun n => nat_Mul.l1 n p q x6 (i : Int) c (p.length : Int) (i : Int) (q.length : Int) (k : Int)) R := by
  intro d
  induction d with
  | zero =>
    intro k x6 c hk hx lx hc hz hv
    have hk' : k = q.length := by omega
    subst hk'
    refine Ev.step (fun n => by rw [nat_Mul.l1]) ?_
    have hcm : c % 4294967296 = c := by omega
    simp only [if_neg (show ¬ ((q.length : Int) < (q.length : Int)) by omega), w64add (show i + q.length ≤ 1000000000 by omega), if_pos (show (0 : Int) ≤ ((i + q.length : Nat) : Int) by omega), if_pos (show ((i + q.length : Nat) : Int) < (x6.length : Int) by omega), Int.toNat_natCast, w64s (show i ≤ 1000000000 by omega), hcm]
    obtain ⟨a1, a2, a3, a4⟩ := mul_out hi hL hx lx hc hz hv
    exact H _ a1 a2 a3 a4
  | succ d ih =>
    intro k x6 c hk hx lx hc hz hv
    refine Ev.step (fun n => by rw [nat_Mul.l1]) ?_
    obtain ⟨b1, b2, b3, b4, a1, a2, a3, a4⟩ := mul_in hp hq hi (show k < q.length by omega) hL hx lx hc hz hv
    have ha := lim_rd hp (i : Int)
    have hb := lim_rd hq (k : Int)
    have ho := lim_rd lx ((i + k : Nat) : Int)
    simp only [if_pos (show ((k : Int) < (q.length : Int)) by omega), if_pos (show (0 : Int) ≤ (i : Int) by omega), if_pos (show (i : Int) < (p.length : Int) by omega), if_pos (show (0 : Int) ≤ (k : Int) by omega), w64add (show i + k ≤ 1000000000 by omega),
      if_pos (show (0 : Int) ≤ ((i + k : Nat) : Int) by omega), if_pos (show ((i + k : Nat) : Int) < (x6.length : Int) by omega), Int.toNat_natCast, w64s (show k ≤ 1000000000 by omega),
      u64w ha.1 (show rd p (i : Int) < 18446744073709551616 by omega), u64w hb.1 (show rd q (k : Int) < 18446744073709551616 by omega), u64w ho.1 (show rd x6 ((i + k : Nat) : Int) < 18446744073709551616 by omega), u64w b2.1 b2.2, u64w b3.1 b3.2, u64w b1.1 b1.2]
    exact ih (k + 1) _ _ (by omega) a1 a2 b4 a3 a4
theorem Mul_loop (p q : List Int) (hp : Lim p) (hq : Lim q) (L : Nat) (hL : p.length + q.length ≤ L) (hL2 : L ≤ 1000000) : ∀ d i x6, i + d = p.length → x6.length = L → Lim x6 → (∀ j : Nat, i + q.length ≤ j → rd x6 (j : Int) = 0) → val x6 = val (p.take i) * val q →
    Ev (fun k => nat_Mul.l0 k p q x6 (p.length : Int) (i : Int)) (fitR (val p * val q)) := by
  intro d
  induction d with
  | zero =>
    intro i x6 hi hx lx hz hv
    refine Ev.step (fun k => by rw [nat_Mul.l0]) ?_
    simp only [if_neg (show ¬ ((i : Int) < (p.length : Int)) by omega)]
    rw [List.take_of_length_le (by omega)] at hv
    have := fits_ev x6 (by omega) lx
    rw [hv] at this
    exact this.bind (Ev.now _)
  | succ d ih =>
    intro i x6 hi hx lx hz hv
    refine Ev.step (fun k => by rw [nat_Mul.l0]) ?_
    simp only [if_pos (show ((i : Int) < (p.length : Int)) by omega)]
    refine Mul_inner p q hp hq L hL hL2 i (by omega) (val x6) _ ?_ q.length 0 x6 0 (by omega) hx lx (by omega) hz (by simp [val])
    intro y hy ly hzy hvy
    refine ih (i + 1) y (by omega) hy ly hzy ?_
    rw [hvy, hv, val_take_succ p i (by omega)]
    grind
def mulR (x y : Int) : List Int × Int := if (big x || big y) = true then ([], 2) else fitR (x * y)
/-- A list cut to its right length, and what follows. (A 'simp' over what follows would make the kernel compare great bounds.) -/
theorem cut_ev {β : Type} (F : Nat → List Int → Option β) (l : List Int) (hl : l.length ≤ 1000000) {r : β} (h : Ev (fun k => F k (tr l)) r) :
    Ev (fun k => (nat_right.f k l).bind fun t => (if 0 ≤ t then (if t ≤ (l.length : Int) then ((some (l.take (t : Int).toNat : List Int)).bind fun y => F k y) else none) else none)) r := by
  refine (right_ev l hl).bind ?_
  have h1 := tr_length_le l
  simp only [if_pos (show (0 : Int) ≤ ((tr l).length : Int) by omega), if_pos (show ((tr l).length : Int) ≤ (l.length : Int) by omega), Option.bind_some, Int.toNat_natCast, tr_take]
  exact h
theorem Mul_tail (p q : List Int) (hp : Lim p) (hq : Lim q) (h1 : p.length ≤ 100000) (h2 : q.length ≤ 100000) :
    Ev (fun k => if 0 ≤ (wrap64 ((p.length : Int) + (q.length : Int))) then (if (wrap64 ((p.length : Int) + (q.length : Int)) : Int).toNat ≤ 70368744177664 then (nat_Mul.l0 k p q (List.replicate (wrap64 ((p.length : Int) + (q.length : Int)) : Int).toNat 0) (p.length : Int) 0) else (none)) else (none)) (fitR (val p * val q)) := by
  rw [w64add (show p.length + q.length ≤ 1000000000 by omega), Int.toNat_natCast]
  generalize hL : p.length + q.length = L
  simp only [if_pos (show (0 : Int) ≤ (L : Int) by omega), if_pos (show L ≤ 70368744177664 by omega)]
  exact Mul_loop p q hp hq L (by omega) (by omega) p.length 0 (List.replicate L 0) (by omega) (by simp) (Lim.zeros _) (fun j _ => rd_zeros _ _) (by rw [val_zeros, List.take_zero]; simp [val])
theorem Mul_ev (a b : List Int) (ha : a.length ≤ 100000) (hb : b.length ≤ 100000) (la : Lim a) (lb : Lim b) : Ev (fun k => nat_Mul.f k a b) (mulR (val a) (val b)) := by
  unfold nat_Mul.f mulR
  refine (over2_ev a b (by omega) (by omega) la lb).bind ?_
  by_cases ho : (big (val a) || big (val b)) = true
  · simp only [if_pos ho]; exact Ev.now _
  · rw [if_neg ho]
    have h1 := tr_length_le a
    have h2 := tr_length_le b
    refine Ev.congr (fun k => if_neg ho) ?_
    refine cut_ev _ a (by omega) ?_
    refine cut_ev _ b (by omega) ?_
    have := Mul_tail (tr a) (tr b) (tr_Lim la) (tr_Lim lb) (by omega) (by omega)
    rw [tr_val, tr_val] at this
    exact this

theorem mul_lt_PW {x y : Int} {m n : Nat} (hx0 : 0 ≤ x) (hx : x < PW m) (hy0 : 0 ≤ y) (hy : y < PW n) : 0 ≤ x * y ∧ x * y < PW (m + n) := by
  refine ⟨Int.mul_nonneg hx0 hy0, ?_⟩
  rw [PW_add]
  have h1 := Int.mul_le_mul_of_nonneg_right (show x + 1 ≤ PW m by omega) (show 0 ≤ PW n by omega)
  have h2 := Int.mul_le_mul_of_nonneg_left (show y ≤ PW n by omega) hx0
  rw [Int.add_mul] at h1
  have := PW_pos n
  omega
end Go.Proofs.YtfcenlhaepckoaaDoor.P
namespace Go.Proofs.YtfcenlhaepckoaaDoor.P
set_option linter.all false
set_option linter.unusedSimpArgs false
open Go.RowKit Go.Proofs.YtfcenlhaepckoaaDoorW.PrintWords Go.Proofs.YtfcenlhaepckoaaDoorW.PrintLast Go.Proofs.YtfcenlhaepckoaaDoorW.PrintMore

theorem rd_end (l : List Int) (i : Nat) (h : l.length ≤ i) : rd l (i : Int) = 0 := by
  unfold rd; rw [Int.toNat_natCast, List.getD, List.getElem?_eq_none h]; rfl
theorem val_take_succ' (l : List Int) (i : Nat) : val (l.take (i + 1)) = val (l.take i) + PW i * rd l (i : Int) := by
  by_cases h : i < l.length
  · exact val_take_succ l i h
  · rw [rd_end l i (by omega), List.take_of_length_le (by omega), List.take_of_length_le (by omega)]; omega
theorem set_here (a : List Int) (d : Nat) (v : Int) : (a ++ List.replicate (d + 1) 0).set a.length v = (a ++ [v]) ++ List.replicate d 0 := by
  rw [List.replicate_succ, List.set_append_right _ _ (Nat.le_refl _), Nat.sub_self, List.set_cons_zero, List.append_assoc]; rfl
theorem add32 {x y c : Int} (hx : 0 ≤ x ∧ x < 4294967296) (hy : 0 ≤ y ∧ y < 4294967296) (hc : c = 0 ∨ c = 1) : bits_Add32.f x y c = some ((x + y + c) % 4294967296, (x + y + c) / 4294967296) := by
  unfold bits_Add32.f
  rw [u64w hx.1 (by omega), u64w hy.1 (by omega), u64w (n := c) (by omega) (by omega), u64w (n := x + y) (by omega) (by omega), u64w (by omega) (by omega)]
  rw [show (x + y + c) / 4294967296 % 4294967296 = (x + y + c) / 4294967296 by omega]
/-- One step of a sum. -/
theorem sum_step {D u v q x y c : Int} (h : D + q * c = u + v) : D + q * ((x + y + c) % 4294967296) + 4294967296 * q * ((x + y + c) / 4294967296) = u + q * x + (v + q * y) := by
  have e : (x + y + c) % 4294967296 + 4294967296 * ((x + y + c) / 4294967296) = x + y + c := by omega
  generalize (x + y + c) % 4294967296 = r at *
  generalize (x + y + c) / 4294967296 = t at *
  have : q * (r + 4294967296 * t) = q * (x + y + c) := by rw [e]
  grind
theorem Add_loop (p q : List Int) (hp : Lim p) (hq : Lim q) (hn : p.length ≤ 100000) (hqn : q.length ≤ p.length) : ∀ d i done c, i + d = p.length → done.length = i → Lim done → (c = 0 ∨ c = 1) →
    val done + PW i * c = val (p.take i) + val (q.take i) →
    Ev (fun k => nat_Add.l0 k p q (done ++ List.replicate (d + 1) 0) c (p.length : Int) (i : Int)) (fitR (val p + val q)) := by
  intro d
  induction d with
  | zero =>
    intro i done c hi hd hL hc hv
    refine Ev.step (fun k => by rw [nat_Add.l0]) ?_
    have e : (done ++ List.replicate (0 + 1) 0).set ((p.length : Int)).toNat c = done ++ [c] := by
      rw [Int.toNat_natCast, show p.length = done.length by omega, set_here]; simp
    simp only [if_neg (show ¬ ((i : Int) < (p.length : Int)) by omega), if_pos (show (0 : Int) ≤ (p.length : Int) by omega), e, if_pos (show ((p.length : Int) < ((done ++ List.replicate (0 + 1) 0).length : Int)) by simp; omega)]
    have hL2 : Lim (done ++ [c]) := Lim.append.2 ⟨hL, Lim.one (by omega) (by omega)⟩
    have := fits_ev (done ++ [c]) (by simp; omega) hL2
    rw [val_append, val_one, hd, hv, List.take_of_length_le (by omega), List.take_of_length_le (by omega)] at this
    exact this.bind (Ev.now _)
  | succ d ih =>
    intro i done c hi hd hL hc hv
    refine Ev.step (fun k => by rw [nat_Add.l0]) ?_
    have hx := lim_rd hp (i : Int)
    have hy := lim_rd hq (i : Int)
    have hlen : ((i : Int) < ((done ++ List.replicate (d + 1 + 1) 0).length : Int)) := by simp; omega
    simp only [if_pos (show ((i : Int) < (p.length : Int)) by omega), if_pos (show (0 : Int) ≤ (i : Int) by omega), if_pos hlen]
    have key : Ev (fun k => nat_Add.l0 k p q ((done ++ List.replicate (d + 1 + 1) 0).set (i : Int).toNat ((rd p i + rd q i + c) % 4294967296)) ((rd p i + rd q i + c) / 4294967296) (p.length : Int) (wrap64 ((i : Int) + 1))) (fitR (val p + val q)) := by
      rw [Int.toNat_natCast, ← hd, set_here, hd, w64s (by omega)]
      refine ih (i + 1) _ _ (by omega) (by simp [hd]) (Lim.append.2 ⟨hL, Lim.one (by omega) (by omega)⟩) (by omega) ?_
      rw [val_append, val_one, hd, val_take_succ', val_take_succ', PW_succ]
      exact sum_step hv
    by_cases hb : (i : Int) < (q.length : Int)
    · simp only [if_pos hb, add32 hx hy hc, Option.bind_some]; exact key
    · rw [rd_end q i (by omega)] at key
      simp only [if_neg hb, add32 hx (show (0 : Int) ≤ 0 ∧ (0 : Int) < 4294967296 by decide) hc, Option.bind_some]; exact key
theorem Add_j0 (p q : List Int) (hp : Lim p) (hq : Lim q) (hn : p.length ≤ 100000) (hqn : q.length ≤ p.length) : Ev (fun k => nat_Add.j0 k p q) (fitR (val p + val q)) := by
  refine Ev.step (fun k => by rw [nat_Add.j0]) ?_
  simp only [w64s (show p.length ≤ 1000000000 by omega), if_pos (show (0 : Int) ≤ ((p.length + 1 : Nat) : Int) by omega), Int.toNat_natCast, if_pos (show p.length + 1 ≤ 70368744177664 by omega)]
  have := Add_loop p q hp hq hn hqn p.length 0 [] 0 (by omega) rfl Lim.nil (.inl rfl) (by simp [val])
  simpa using this
def addR (x y : Int) : List Int × Int := if (big x || big y) = true then ([], 2) else fitR (x + y)
theorem Add_ev (a b : List Int) (ha : a.length ≤ 100000) (hb : b.length ≤ 100000) (la : Lim a) (lb : Lim b) : Ev (fun k => nat_Add.f k a b) (addR (val a) (val b)) := by
  unfold nat_Add.f addR
  refine (over2_ev a b (by omega) (by omega) la lb).bind ?_
  by_cases ho : (big (val a) || big (val b)) = true
  · simp only [if_pos ho]; exact Ev.now _
  · simp only [if_neg ho]
    refine (right_ev a (by omega)).bind ?_
    have h1 := tr_length_le a
    have h2 := tr_length_le b
    simp only [if_pos (show (0 : Int) ≤ ((tr a).length : Int) by omega), if_pos (show ((tr a).length : Int) ≤ (a.length : Int) by omega), Option.bind_some, Int.toNat_natCast, tr_take]
    refine (right_ev b (by omega)).bind ?_
    simp only [if_pos (show (0 : Int) ≤ ((tr b).length : Int) by omega), if_pos (show ((tr b).length : Int) ≤ (b.length : Int) by omega), Option.bind_some, Int.toNat_natCast, tr_take]
    by_cases c : (tr a).length < (tr b).length
    · simp only [if_pos (show ((tr a).length : Int) < ((tr b).length : Int) by omega)]
      have := Add_j0 (tr b) (tr a) (tr_Lim lb) (tr_Lim la) (by omega) (by omega)
      rw [tr_val, tr_val, Int.add_comm] at this
      exact this
    · simp only [if_neg (show ¬ (((tr a).length : Int) < ((tr b).length : Int)) by omega)]
      have := Add_j0 (tr a) (tr b) (tr_Lim la) (tr_Lim lb) (by omega) (by omega)
      rw [tr_val, tr_val] at this
      exact this

theorem can_short {z : Int} (h : 0 ≤ z) {n : Nat} (hz : z < PW n) : (can z).length ≤ n := (can_length h n).2 hz

/-- One step of a difference. -/
theorem dif_step {D u v q x y c : Int} (h : D - q * c = u - v) (hx : 0 ≤ x ∧ x < 4294967296) (hy : 0 ≤ y ∧ y < 4294967296) (hc : c = 0 ∨ c = 1) :
    D + q * ((x - y - c) % 4294967296) - 4294967296 * q * (if x < y + c then 1 else 0) = u + q * x - (v + q * y) := by
  have e : (x - y - c) % 4294967296 = x - y - c + 4294967296 * (if x < y + c then 1 else 0) := by split <;> omega
  rw [e]
  generalize (if x < y + c then (1 : Int) else 0) = t
  grind
theorem dif_end {D u v : Int} {c : Int} {n : Nat} (h : D - PW n * c = u - v) (hv : v ≤ u) (hD : D < PW n) (hc : c = 0 ∨ c = 1) : D = u - v := by
  rcases hc with rfl | rfl
  · simpa using h
  · rw [Int.mul_one] at h; omega
theorem Sub_loop (p q : List Int) (hp : Lim p) (hq : Lim q) (hn : p.length ≤ 100000) (hqn : q.length ≤ p.length) (hle : val q ≤ val p) : ∀ d i done c, i + d = p.length → done.length = i → Lim done → (c = 0 ∨ c = 1) →
    val done - PW i * c = val (p.take i) - val (q.take i) →
    Ev (fun k => nat_Sub.l0 k p q (done ++ List.replicate d 0) c (p.length : Int) (i : Int)) (can (val p - val q), (0 : Int)) := by
  intro d
  induction d with
  | zero =>
    intro i done c hi hd hL hc hv
    refine Ev.step (fun k => by rw [nat_Sub.l0]) ?_
    simp only [if_neg (show ¬ ((i : Int) < (p.length : Int)) by omega), List.replicate_zero, List.append_nil]
    refine (right_ev done (by omega)).bind ?_
    have h1 := tr_length_le done
    simp only [if_pos (show (0 : Int) ≤ ((tr done).length : Int) by omega), if_pos (show ((tr done).length : Int) ≤ (done.length : Int) by omega), Int.toNat_natCast, tr_take]
    rw [List.take_of_length_le (by omega), List.take_of_length_le (by omega)] at hv
    have hlt := val_lt hL
    rw [hd] at hlt
    rw [← dif_end hv hle hlt hc, can_of hL]
    exact Ev.now _
  | succ d ih =>
    intro i done c hi hd hL hc hv
    refine Ev.step (fun k => by rw [nat_Sub.l0]) ?_
    have hx := lim_rd hp (i : Int)
    have hy := lim_rd hq (i : Int)
    have hlen : ((i : Int) < ((done ++ List.replicate (d + 1) 0).length : Int)) := by simp; omega
    simp only [if_pos (show ((i : Int) < (p.length : Int)) by omega), if_pos (show (0 : Int) ≤ (i : Int) by omega), if_pos hlen]
    have key : Ev (fun k => nat_Sub.l0 k p q ((done ++ List.replicate (d + 1) 0).set (i : Int).toNat ((rd p i - rd q i - c) % 4294967296)) (if rd p i < rd q i + c then 1 else 0) (p.length : Int) (wrap64 ((i : Int) + 1))) (can (val p - val q), (0 : Int)) := by
      rw [Int.toNat_natCast, ← hd, set_here, hd, w64s (by omega)]
      refine ih (i + 1) _ _ (by omega) (by simp [hd]) (Lim.append.2 ⟨hL, Lim.one (by omega) (by omega)⟩) (by split <;> simp) ?_
      rw [val_append, val_one, hd, val_take_succ', val_take_succ', PW_succ]
      exact dif_step hv hx hy hc
    have s32 : ∀ y : Int, 0 ≤ y ∧ y < 4294967296 → bits_Sub32.f (rd p i) y c = some ((rd p i - y - c) % 4294967296, if rd p i < y + c then 1 else 0) := by
      intro y hy
      unfold bits_Sub32.f
      rw [if_pos ⟨hx.1, hx.2, hy.1, hy.2, hc⟩]
    by_cases hb : (i : Int) < (q.length : Int)
    · simp only [if_pos hb, s32 _ hy, Option.bind_some]; exact key
    · rw [rd_end q i (by omega)] at key
      simp only [if_neg hb, s32 0 (by decide), Option.bind_some]; exact key
def subR (x y : Int) : List Int × Int := if (big x || big y) = true then ([], 2) else if cmpR x y < 0 then ([], 6) else (can (x - y), 0)
theorem cmpR_neg {x y : Int} : cmpR x y < 0 ↔ x < y := by
  unfold cmpR
  by_cases h : x < y
  · rw [if_pos h]; exact ⟨fun _ => h, fun _ => by decide⟩
  · rw [if_neg h]
    refine ⟨fun q => ?_, fun q => absurd q h⟩
    split at q <;> omega
theorem can_mono {x y : Int} (hx : 0 ≤ x) (h : x ≤ y) : (can x).length ≤ (can y).length := by
  refine can_short hx ?_
  have := (can_length (show 0 ≤ y by omega) _).1 (Nat.le_refl _)
  omega
theorem Sub_ev (a b : List Int) (ha : a.length ≤ 100000) (hb : b.length ≤ 100000) (la : Lim a) (lb : Lim b) : Ev (fun k => nat_Sub.f k a b) (subR (val a) (val b)) := by
  unfold nat_Sub.f subR
  refine (over2_ev a b (by omega) (by omega) la lb).bind ?_
  by_cases ho : (big (val a) || big (val b)) = true
  · simp only [if_pos ho]; exact Ev.now _
  · simp only [if_neg ho]
    refine (Cmp_ev a b (by omega) (by omega) la lb).bind ?_
    by_cases hc : cmpR (val a) (val b) < 0
    · simp only [if_pos hc]; exact Ev.now _
    · simp only [if_neg hc]
      have hle : val b ≤ val a := by have := mt cmpR_neg.2 hc; omega
      refine (right_ev a (by omega)).bind ?_
      have h1 := tr_length_le a
      have h2 := tr_length_le b
      simp only [if_pos (show (0 : Int) ≤ ((tr a).length : Int) by omega), if_pos (show ((tr a).length : Int) ≤ (a.length : Int) by omega), Option.bind_some, Int.toNat_natCast, tr_take]
      refine (right_ev b (by omega)).bind ?_
      simp only [if_pos (show (0 : Int) ≤ ((tr b).length : Int) by omega), if_pos (show ((tr b).length : Int) ≤ (b.length : Int) by omega), Option.bind_some, Int.toNat_natCast, tr_take, if_pos (show (tr a).length ≤ 70368744177664 by omega)]
      have hm := can_mono (val_nonneg lb) hle
      rw [can_of la, can_of lb] at hm
      have := Sub_loop (tr a) (tr b) (tr_Lim la) (tr_Lim lb) (by omega) hm (by rw [tr_val, tr_val]; exact hle) (tr a).length 0 [] 0 (by omega) rfl Lim.nil (.inl rfl) (by simp [val])
      rw [tr_val, tr_val] at this
      simpa using this
end Go.Proofs.YtfcenlhaepckoaaDoor.P
namespace Go.Proofs.YtfcenlhaepckoaaDoor.P
set_option linter.all false
set_option linter.unusedSimpArgs false
open Go.RowKit Go.Proofs.YtfcenlhaepckoaaDoorW.PrintWords Go.Proofs.YtfcenlhaepckoaaDoorW.PrintLast Go.Proofs.YtfcenlhaepckoaaDoorW.PrintMore

def powL (b : Int) : Nat → Int → List Int × Int
  | 0, z => (can z, 0)
  | d + 1, z => if big (z * b) = true then ([], 2) else powL b d (z * b)
def powR (b n : Int) : List Int × Int :=
  if b < 0 ∨ b > 1000000 ∨ n < 0 then ([], 1) else if b = 0 ∧ n > 0 then ([], 0) else if b ≤ 1 then ([1], 0) else powL b n.toNat 1
theorem not_big_len {z : Int} (h : big z = false) : (can z).length ≤ 256 := by
  unfold big at h; simpa using h
theorem small_not_big {z : Int} (h0 : 0 ≤ z) (h1 : z < 4294967296) : big z = false := by
  unfold big
  have := can_short h0 (n := 1) (by show z < PW 1; rw [show PW 1 = 4294967296 by decide]; exact h1)
  simp; omega
theorem Pow_loop (b : Int) (hb : 2 ≤ b) (hb2 : b ≤ 1000000) (n : Nat) (hn : n ≤ 9223372036854775807) : ∀ d i z, i + d = n → 0 ≤ z → big z = false → Ev (fun k => nat_Pow.l0 k b (can z) (n : Int) (i : Int)) (powL b d z) := by
  intro d
  induction d with
  | zero =>
    intro i z hi hz hbz
    refine Ev.step (fun k => by rw [nat_Pow.l0]) ?_
    simp only [if_neg (show ¬ ((i : Int) < (n : Int)) by omega)]
    exact Ev.now _
  | succ d ih =>
    intro i z hi hz hbz
    refine Ev.step (fun k => by rw [nat_Pow.l0]) ?_
    simp only [if_pos (show ((i : Int) < (n : Int)) by omega), u64w (show 0 ≤ b by omega) (show b < 18446744073709551616 by omega)]
    refine (Of_ev b (by omega) (by omega)).bind ?_
    have hbb := small_not_big (show 0 ≤ b by omega) (show b < 4294967296 by omega)
    have hm := Mul_ev (can z) (can b) (by have := not_big_len hbz; omega) (by have := not_big_len hbb; omega) (can_Lim _) (can_Lim _)
    rw [can_val hz, can_val (show 0 ≤ b by omega)] at hm
    unfold mulR fitR at hm
    rw [hbz, hbb] at hm
    simp only [Bool.or_false, Bool.false_eq_true, if_false] at hm
    refine hm.bind ?_
    rw [powL]
    cases hbig : big (z * b) with
    | true => simp only [if_true, if_neg (show ¬ ((2 : Int) = 0) by decide)]; exact Ev.now _
    | false =>
      simp only [Bool.false_eq_true, if_false, if_true]
      rw [show wrap64 ((i : Int) + 1) = ((i + 1 : Nat) : Int) by rw [w64 (by omega) (by omega)]; rfl]
      exact ih (i + 1) (z * b) (by omega) (Int.mul_nonneg hz (by omega)) hbig
theorem can_one : can 1 = [1] := by
  have := can_of (Lim.one (show (0 : Int) ≤ 1 by decide) (by decide))
  rw [val_one] at this
  rw [this]; rfl
theorem Pow_ev (b n : Int) (hn : n ≤ 9223372036854775807) : Ev (fun k => nat_Pow.f k b n) (powR b n) := by
  have bad : ∀ b n, Ev (fun k => nat_Pow.j0 k b n true) (([] : List Int), (1 : Int)) := by
    intro b n
    refine Ev.step (fun k => by rw [nat_Pow.j0]) ?_
    simp only [if_true]; exact Ev.now _
  unfold nat_Pow.f powR
  by_cases c1 : b < 0
  · simp only [if_pos c1, c1, true_or, if_true]; exact bad _ _
  · by_cases c2 : b > 1000000
    · simp only [if_neg c1, if_pos c2, c2, true_or, or_true, if_true]; exact bad _ _
    · by_cases c3 : n < 0
      · simp only [if_neg c1, if_neg c2, c3, or_true, if_true, decide_true]; exact bad _ _
      · simp only [if_neg c1, if_neg c2, decide_eq_false c3, if_neg (show ¬ (b < 0 ∨ b > 1000000 ∨ n < 0) by omega)]
        refine Ev.step (fun k => by rw [nat_Pow.j0]) ?_
        simp only [Bool.false_eq_true, if_false, Option.bind_some]
        have big1 : big 1 = false := small_not_big (by decide) (by decide)
        by_cases c4 : b = 0
        · subst c4
          simp only [if_true, true_and]
          refine Ev.step (fun k => by rw [nat_Pow.j1]) ?_
          by_cases c5 : n > 0
          · simp only [c5, decide_true, if_true]; exact Ev.now _
          · simp only [decide_eq_false c5, Bool.false_eq_true, if_false, if_neg c5, if_pos (show (0 : Int) ≤ 1 by decide)]; exact Ev.now _
        · simp only [if_neg c4, if_neg (show ¬ (b = 0 ∧ n > 0) from fun h => c4 h.1)]
          refine Ev.step (fun k => by rw [nat_Pow.j1]) ?_
          simp only [Bool.false_eq_true, if_false]
          by_cases c5 : b ≤ 1
          · simp only [if_pos c5]; exact Ev.now _
          · simp only [if_neg c5]
            have := Pow_loop b (by omega) (by omega) n.toNat (by omega) n.toNat 0 1 (by omega) (by decide) big1
            rw [can_one, Int.toNat_of_nonneg (by omega)] at this
            exact this
end Go.Proofs.YtfcenlhaepckoaaDoor.P
set_option linter.unusedSimpArgs false
set_option linter.unusedVariables false
namespace Go.Proofs.YtfcenlhaepckoaaDoor.P
set_option linter.all false
open Go.RowKit Go.Proofs.YtfcenlhaepckoaaDoorW.PrintWords

/-- The number that digits spell. -/
def natFrom (a : Nat) (l : List UInt8) : Nat := l.foldl (fun a b => a * 10 + (b.toNat - 48)) a
def natL (l : List UInt8) : Nat := natFrom 0 l
theorem natFrom_cons (a : Nat) (b : UInt8) (l : List UInt8) : natFrom a (b :: l) = natFrom (a * 10 + (b.toNat - 48)) l := by unfold natFrom; rw [List.foldl_cons]
theorem natFrom_lt (l : List UInt8) (h : l.all isDig = true) : ∀ a, natFrom a l < (a + 1) * 10 ^ l.length := by
  induction l with
  | nil => intro a; simp [natFrom]
  | cons b l ih =>
    intro a
    rw [List.all_cons, Bool.and_eq_true] at h
    have hb := (isDig_iff b).1 h.1
    have := ih h.2 (a * 10 + (b.toNat - 48))
    rw [natFrom_cons, List.length_cons, Nat.pow_succ]
    refine Nat.lt_of_lt_of_le this ?_
    rw [show (a + 1) * (10 ^ l.length * 10) = ((a + 1) * 10) * 10 ^ l.length by rw [Nat.mul_comm (10 ^ l.length), Nat.mul_assoc]]
    exact Nat.mul_le_mul_right _ (by omega)
theorem decFrom_eq (l : List UInt8) (h : l.all isDig = true) : ∀ a, Lib.decFrom a l = some (natFrom a l) := by
  induction l with
  | nil => intro a; rfl
  | cons b l ih =>
    intro a
    rw [List.all_cons, Bool.and_eq_true] at h
    have hb := (isDig_iff b).1 h.1
    simp only [Lib.decFrom, Lib.digitVal, if_pos hb, natFrom_cons]
    exact ih h.2 _
theorem atoi_digits (l : List UInt8) (h : l.all isDig = true) (h0 : l ≠ []) : Lib.atoi l = some (natL l : Int) := by
  cases l with
  | nil => exact absurd rfl h0
  | cons b l =>
    have h' := h
    rw [List.all_cons, Bool.and_eq_true] at h'
    have hb := (isDig_iff b).1 h'.1
    have h45 : (b == 45) = false := by rw [beq_eq_false_iff_ne]; rintro rfl; revert hb; decide
    have h43 : (b == 43) = false := by rw [beq_eq_false_iff_ne]; rintro rfl; revert hb; decide
    unfold Lib.atoi
    simp only [h45, h43, Bool.false_eq_true, if_false, Lib.decNat, List.isEmpty_cons]
    rw [decFrom_eq _ h]; rfl

/-- k digits of r, with noughts ahead. -/
def padK : Nat → Nat → List UInt8
  | 0, _ => []
  | k + 1, r => padK k (r / 10) ++ [UInt8.ofNat (48 + r % 10)]
theorem padK_length : ∀ k r, (padK k r).length = k := by
  intro k
  induction k with
  | zero => intro r; rfl
  | succ k ih => intro r; simp [padK, ih]
theorem padK_zero : ∀ k, padK k 0 = List.replicate k 48 := by
  intro k
  induction k with
  | zero => rfl
  | succ k ih => rw [padK, ih, List.replicate_succ']; rfl
theorem dd_small {u : Nat} (h : u < 10) : Lib.decDigits u = [UInt8.ofNat (48 + u)] := by rw [Lib.decDigits, dif_pos h]
theorem dd_big {u : Nat} (h : ¬ u < 10) : Lib.decDigits u = Lib.decDigits (u / 10) ++ [UInt8.ofNat (48 + u % 10)] := by rw [Lib.decDigits, dif_neg h]
theorem dd_join : ∀ k q r, 0 < q → r < 10 ^ k → Lib.decDigits (q * 10 ^ k + r) = Lib.decDigits q ++ padK k r := by
  intro k
  induction k with
  | zero => intro q r hq hr; have : r = 0 := by simpa using hr
            subst this; simp [padK]
  | succ k ih =>
    intro q r hq hr
    rw [Nat.pow_succ] at hr
    have hp : 0 < 10 ^ k := Nat.pow_pos (by decide)
    have e : q * 10 ^ (k + 1) + r = (q * 10 ^ k + r / 10) * 10 + r % 10 := by rw [Nat.pow_succ, ← Nat.mul_assoc]; omega
    have h1 : 10 ^ k ≤ q * 10 ^ k := Nat.le_mul_of_pos_left _ hq
    rw [e, dd_big (by omega), show ((q * 10 ^ k + r / 10) * 10 + r % 10) / 10 = q * 10 ^ k + r / 10 by omega, show ((q * 10 ^ k + r / 10) * 10 + r % 10) % 10 = r % 10 by omega, ih q (r / 10) hq (by omega), padK, List.append_assoc]
theorem dd_pad : ∀ k r, 0 < k → r < 10 ^ k → (Lib.decDigits r).length ≤ k ∧ List.replicate (k - (Lib.decDigits r).length) 48 ++ Lib.decDigits r = padK k r := by
  intro k
  induction k with
  | zero => intro r hk; omega
  | succ k ih =>
    intro r hk hr
    by_cases h : r < 10
    · rw [dd_small h, padK, show r / 10 = 0 by omega, show r % 10 = r by omega, padK_zero]
      exact ⟨by simp, by simp⟩
    · rw [Nat.pow_succ] at hr
      have hk0 : 0 < k := by
        cases k with
        | zero => simp at hr; omega
        | succ k => omega
      obtain ⟨h1, h2⟩ := ih (r / 10) hk0 (by omega)
      rw [dd_big h, padK, ← h2]
      refine ⟨by simp; omega, ?_⟩
      rw [List.length_append, List.length_singleton, show k + 1 - ((Lib.decDigits (r / 10)).length + 1) = k - (Lib.decDigits (r / 10)).length by omega, List.append_assoc]
theorem natFrom_add (a : Nat) (l : List UInt8) : natFrom a l = a * 10 ^ l.length + natL l := by
  induction l generalizing a with
  | nil => simp [natFrom, natL]
  | cons b l ih =>
    unfold natL
    rw [natFrom_cons, natFrom_cons, ih (a * 10 + (b.toNat - 48)), ih (0 * 10 + (b.toNat - 48)), List.length_cons, Nat.pow_succ, Nat.add_mul, Nat.mul_assoc, Nat.mul_comm 10, Nat.zero_mul, Nat.zero_add]; omega
theorem natL_append (a b : List UInt8) : natL (a ++ b) = natL a * 10 ^ b.length + natL b := by
  rw [← natFrom_add]; unfold natL natFrom; rw [List.foldl_append]
theorem natL_trimL (l : List UInt8) : natL (trimL l) = natL l := by
  unfold trimL
  induction l with
  | nil => rfl
  | cons b l ih =>
    by_cases h : b = 48
    · subst h
      rw [List.dropWhile_cons_of_pos (by rfl), ih]
      unfold natL
      rw [natFrom_cons]; rfl
    · rw [List.dropWhile_cons_of_neg (by simpa using h)]
theorem trimL_len (l : List UInt8) : (trimL l).length ≤ l.length := by
  unfold trimL
  exact (List.dropWhile_sublist _).length_le
theorem trimL_all {l : List UInt8} (h : l.all isDig = true) : (trimL l).all isDig = true := by
  rw [List.all_eq_true] at h ⊢
  exact fun x hx => h x ((List.dropWhile_sublist _).subset hx)
theorem take_all {l : List UInt8} (h : l.all isDig = true) (n : Nat) : (l.take n).all isDig = true := by
  rw [List.all_eq_true] at h ⊢
  exact fun x hx => h x (List.mem_of_mem_take hx)
theorem drop_all {l : List UInt8} (h : l.all isDig = true) (n : Nat) : (l.drop n).all isDig = true := by
  rw [List.all_eq_true] at h ⊢
  exact fun x hx => h x (List.mem_of_mem_drop hx)
theorem natL_lt {l : List UInt8} (h : l.all isDig = true) : natL l < 10 ^ l.length := by
  have := natFrom_lt l h 0
  unfold natL; omega
theorem dropWhile_nil_iff {α : Type} (p : α → Bool) (l : List α) : l.dropWhile p = [] ↔ ∀ x ∈ l, p x = true := by
  induction l with
  | nil => simp
  | cons b l ih =>
    by_cases h : p b = true
    · rw [List.dropWhile_cons_of_pos h, ih]; simp [h]
    · rw [List.dropWhile_cons_of_neg h]; simp [h]
/-- Trimmed of all digits, what is left is nothing just where all are digits. -/
theorem trimS_digits (l : List UInt8) : Lib.trimS l [48, 49, 50, 51, 52, 53, 54, 55, 56, 57] = [] ↔ l.all isDig = true := by
  have hc : ∀ b : UInt8, ([48, 49, 50, 51, 52, 53, 54, 55, 56, 57] : List UInt8).contains b = isDig b := by
    intro b
    have : ∀ n : Fin 256, ([48, 49, 50, 51, 52, 53, 54, 55, 56, 57] : List UInt8).contains (UInt8.ofNat n.val) = isDig (UInt8.ofNat n.val) := by decide +kernel
    have h := this ⟨b.toNat, b.toNat_lt⟩
    simpa using h
  unfold Lib.trimS Lib.trimLeftS Lib.trimRightS
  simp only [hc]
  constructor
  · intro h
    rw [dropWhile_nil_iff] at h
    rw [List.all_eq_true]
    intro x hx
    by_cases hm : x ∈ (l.reverse.dropWhile isDig).reverse
    · exact h x hm
    · have hsplit := List.takeWhile_append_dropWhile (p := isDig) (l := l.reverse)
      have hx' : x ∈ l.reverse.takeWhile isDig ++ l.reverse.dropWhile isDig := by rw [hsplit]; exact List.mem_reverse.2 hx
      rcases List.mem_append.1 hx' with hx' | hx'
      · have := List.all_takeWhile (p := isDig) (l := l.reverse)
        exact List.all_eq_true.1 this x hx'
      · exact absurd (List.mem_reverse.2 hx') hm
  · intro h
    have h2 : l.reverse.dropWhile isDig = [] := by
      rw [dropWhile_nil_iff]
      intro x hx
      exact List.all_eq_true.1 h x (List.mem_reverse.1 hx)
    rw [h2]; rfl
end Go.Proofs.YtfcenlhaepckoaaDoor.P
namespace Go.Proofs.YtfcenlhaepckoaaDoor.P
set_option linter.all false
set_option linter.unusedSimpArgs false
open Go.RowKit Go.Proofs.YtfcenlhaepckoaaDoorW.PrintWords Go.Proofs.YtfcenlhaepckoaaDoorW.PrintLast Go.Proofs.YtfcenlhaepckoaaDoorW.PrintMore

def parseR (l : List UInt8) : List Int × Int := if l = [] ∨ l.all isDig = false then ([], 3) else fitR (natL l : Int)
theorem big_mono {x y : Int} (hx : 0 ≤ x) (h : x ≤ y) (hb : big x = true) : big y = true := by
  rw [big_iff (by omega)]
  rw [big_iff hx] at hb
  omega
theorem fitR_big {z : Int} (h : big z = true) : fitR z = ([], 2) := by unfold fitR; rw [if_pos h]
theorem fitR_fits {z : Int} (h : big z = false) : fitR z = (can z, 0) := by unfold fitR; rw [h]; rfl
theorem big_small {z : Int} (h0 : 0 ≤ z) (h : z < PW 256) : big z = false := by
  rw [Bool.eq_false_iff]
  intro q
  rw [big_iff h0] at q
  omega
theorem fits_len {z : Int} (h : big z = false) : (can z).length ≤ 100000 := by have := not_big_len h; omega
theorem pow10_small {n : Nat} (h : n ≤ 9) : (0 : Int) < 10 ^ n ∧ (10 : Int) ^ n ≤ 1000000000 := by
  have : n = 0 ∨ n = 1 ∨ n = 2 ∨ n = 3 ∨ n = 4 ∨ n = 5 ∨ n = 6 ∨ n = 7 ∨ n = 8 ∨ n = 9 := by omega
  rcases this with rfl | rfl | rfl | rfl | rfl | rfl | rfl | rfl | rfl | rfl <;> decide
theorem big_billion {z : Int} (h0 : 0 ≤ z) (h : z ≤ 4294967295) : big z = false := by
  apply big_small h0
  have := PW_le (show 1 ≤ 256 by decide)
  rw [show PW 1 = 4294967296 from rfl] at this
  omega
theorem pow_ge_one {b : Int} (hb : 1 ≤ b) (d : Nat) : 1 ≤ b ^ d := by
  induction d with
  | zero => simp
  | succ d ih =>
    rw [Int.pow_succ]
    have := Int.mul_le_mul_of_nonneg_left hb (show 0 ≤ b ^ d by omega)
    omega
theorem powL_eq {b : Int} (hb : 1 ≤ b) : ∀ d z, 0 ≤ z → big z = false → powL b d z = fitR (z * b ^ d) := by
  intro d
  induction d with
  | zero => intro z _ hbz; rw [powL, Int.pow_zero, Int.mul_one, fitR_fits hbz]
  | succ d ih =>
    intro z hz hbz
    have hzb : 0 ≤ z * b := Int.mul_nonneg hz (by omega)
    have e : z * b ^ (d + 1) = z * b * b ^ d := by rw [Int.pow_succ]; grind
    rw [powL, e]
    cases hbig : big (z * b) with
    | true =>
      rw [if_pos rfl, fitR_big (big_mono hzb _ hbig)]
      have := Int.mul_le_mul_of_nonneg_left (pow_ge_one hb d) hzb
      omega
    | false => rw [if_neg (by decide), ih _ hzb hbig]
theorem powR_eq {b n : Int} (hb : 2 ≤ b) (hb2 : b ≤ 1000000) (hn : 0 ≤ n) : powR b n = fitR (b ^ n.toNat) := by
  unfold powR
  rw [if_neg (by omega), if_neg (by omega), if_neg (by omega), powL_eq (by omega) _ 1 (by decide) (big_billion (by decide) (by decide)), Int.one_mul]
theorem Parse_loop : ∀ m (l : List UInt8) (z : Int), l.length = m → m ≤ 3000 → l.all isDig = true → 0 ≤ z → big z = false →
    Ev (fun k => nat_Parse.l0 k (B l) (can z)) (fitR (z * ((10 ^ l.length : Nat) : Int) + (natL l : Int))) := by
  intro m
  induction m using Nat.strongRecOn with
  | ind m ih =>
    intro l z hm hm2 hd hz hb
    refine Ev.step (fun k => by rw [nat_Parse.l0]) ?_
    by_cases h0 : l.length = 0
    · have : l = [] := List.length_eq_zero_iff.1 h0
      subst this
      simp only [B_size, List.length_nil, if_neg (show ¬ (((0 : Nat) : Int) > 0) by decide), Nat.pow_zero, natL, natFrom, List.foldl_nil]
      rw [show z * ((1 : Nat) : Int) + ((0 : Nat) : Int) = z by omega, fitR_fits hb]
      exact Ev.now _
    · have hn : mn 9 (l.length : Int) = ((min 9 l.length : Nat) : Int) := by unfold mn; split <;> omega
      generalize hN : min 9 l.length = n at hn
      have hn1 : 1 ≤ n := by omega
      have hn9 : n ≤ 9 := by omega
      have hnl : n ≤ l.length := by omega
      have htk : (l.take n).length = n := by rw [List.length_take]; omega
      have htn : l.take n ≠ [] := by intro q; rw [q] at htk; simp at htk; omega
      have hat : strconv_Atoi.f (B (l.take n)) = some ((natL (l.take n) : Int), none) := by
        unfold strconv_Atoi.f
        rw [B_size, htk, if_pos (by omega), B_data, atoi_digits _ (take_all hd n) htn]; rfl
      have hvl := natL_lt (take_all hd n)
      rw [htk] at hvl
      have hp := pow10_small hn9
      have hpn : (((10 ^ n : Nat)) : Int) = (10 : Int) ^ n := by simp
      simp only [B_size, if_pos (show (l.length : Int) > 0 by omega), hn, if_pos (show (0 : Int) ≤ (n : Int) by omega), if_pos (show (n : Int) ≤ (l.length : Int) by omega), Int.toNat_natCast, B_extract, List.drop_zero, hat, Option.bind_some, List.take_length]
      have hpow := Pow_ev 10 (n : Int) (by omega)
      have hpr : powR 10 (n : Int) = (can (10 ^ n), 0) := by
        rw [powR_eq (by decide) (by decide) (by omega), Int.toNat_natCast, fitR_fits (big_billion (z := 10 ^ n) (by omega) (by omega))]
      rw [hpr] at hpow
      refine hpow.bind ?_
      have bp : big (10 ^ n) = false := big_billion (by omega) (by omega)
      have hmul := Mul_ev (can z) (can (10 ^ n)) (fits_len hb) (fits_len bp) (can_Lim _) (can_Lim _)
      rw [can_val hz, can_val (by omega)] at hmul
      unfold mulR at hmul
      rw [hb, bp] at hmul
      simp only [Bool.or_self, Bool.false_eq_true, if_false] at hmul
      refine hmul.bind ?_
      have hz1 : 0 ≤ z * 10 ^ n := Int.mul_nonneg hz (by omega)
      -- what is left
      have hrest : z * ((10 ^ l.length : Nat) : Int) + (natL l : Int) = (z * 10 ^ n + (natL (l.take n) : Int)) * ((10 ^ (l.drop n).length : Nat) : Int) + (natL (l.drop n) : Int) := by
        have e := natL_append (l.take n) (l.drop n)
        rw [List.take_append_drop] at e
        have e2 : (10 : Nat) ^ l.length = 10 ^ n * 10 ^ (l.drop n).length := by rw [← Nat.pow_add, List.length_drop]; congr 1; omega
        rw [e, e2, Int.natCast_add, Int.natCast_mul, Int.natCast_mul, hpn]
        grind
      have hge : z * 10 ^ n + (natL (l.take n) : Int) ≤ z * ((10 ^ l.length : Nat) : Int) + (natL l : Int) := by
        rw [hrest]
        have h1 : (1 : Int) ≤ ((10 ^ (l.drop n).length : Nat) : Int) := by have : 0 < 10 ^ (l.drop n).length := Nat.pow_pos (by decide); omega
        have := Int.mul_le_mul_of_nonneg_left h1 (show 0 ≤ z * 10 ^ n + (natL (l.take n) : Int) by omega)
        omega
      cases hb1 : big (z * 10 ^ n) with
      | true =>
        rw [fitR_big hb1, fitR_big (big_mono hz1 (by omega) hb1)]
        simp only [if_neg (show ¬ ((2 : Int) = 0) by decide)]
        exact Ev.now _
      | false =>
        rw [fitR_fits hb1]
        simp only [if_true]
        have hvl2 : (natL (l.take n) : Int) < 1000000000 := by omega
        have hof := Of_ev (natL (l.take n) : Int) (by omega) (by omega)
        rw [u64w (by omega) (by omega)]
        refine hof.bind ?_
        have bv : big (natL (l.take n) : Int) = false := big_billion (by omega) (by omega)
        have hadd := Add_ev (can (z * 10 ^ n)) (can (natL (l.take n) : Int)) (fits_len hb1) (fits_len bv) (can_Lim _) (can_Lim _)
        rw [can_val hz1, can_val (by omega)] at hadd
        unfold addR at hadd
        rw [hb1, bv] at hadd
        simp only [Bool.or_self, Bool.false_eq_true, if_false] at hadd
        refine hadd.bind ?_
        cases hb2 : big (z * 10 ^ n + (natL (l.take n) : Int)) with
        | true =>
          rw [fitR_big hb2, fitR_big (big_mono (by omega) hge hb2)]
          simp only [if_neg (show ¬ ((2 : Int) = 0) by decide)]
          exact Ev.now _
        | false =>
          rw [fitR_fits hb2]
          simp only [if_true]
          have := ih (l.drop n).length (by rw [List.length_drop]; omega) (l.drop n) (z * 10 ^ n + (natL (l.take n) : Int)) rfl (by rw [List.length_drop]; omega) (drop_all hd n) (by omega) hb2
          rw [← hrest] at this
          exact this
theorem Parse_ev (l : List UInt8) (hl : l.length ≤ 3000) : Ev (fun k => nat_Parse.f k (B l)) (parseR l) := by
  unfold nat_Parse.f parseR
  rw [B_toList]
  have bad : Ev (fun k => nat_Parse.j0 k (B l) true) (([] : List Int), (3 : Int)) := by
    refine Ev.step (fun k => by rw [nat_Parse.j0]) ?_
    simp only [if_true]; exact Ev.now _
  by_cases h0 : l = []
  · simp only [if_pos h0, h0, true_or, if_true]
    rw [h0] at bad
    exact bad
  · simp only [if_neg h0]
    have e1 : (⟨#[48, 49, 50, 51, 52, 53, 54, 55, 56, 57]⟩ : ByteArray) = B [48, 49, 50, 51, 52, 53, 54, 55, 56, 57] := rfl
    have hasc : asciiB (B [48, 49, 50, 51, 52, 53, 54, 55, 56, 57]) = true := by rw [asciiB, B_data]; decide
    have ht : strings_Trim.f (B l) (⟨#[48, 49, 50, 51, 52, 53, 54, 55, 56, 57]⟩ : ByteArray) = some (B (Lib.trimS l [48, 49, 50, 51, 52, 53, 54, 55, 56, 57])) := by
      unfold strings_Trim.f
      rw [e1, B_data, B_data, if_pos ⟨by rw [B_size]; omega, hasc, by rw [B_size]; decide⟩]; rfl
    simp only [ht, Option.bind_some, B_toList]
    have hd := trimS_digits l
    cases hall : l.all isDig with
    | false =>
      have : Lib.trimS l [48, 49, 50, 51, 52, 53, 54, 55, 56, 57] ≠ [] := fun q => by have := hd.1 q; rw [hall] at this; cases this
      rw [bne_iff_ne.2 this]
      simp only [or_true, if_true]
      exact bad
    | true =>
      rw [hd.2 hall]
      have : ((([] : List UInt8)) != []) = false := rfl
      rw [this]
      simp only [h0, Bool.true_eq_false, or_self, if_false]
      refine Ev.step (fun k => by rw [nat_Parse.j0]) ?_
      have e2 : (⟨#[48]⟩ : ByteArray) = B [48] := rfl
      have ht2 : strings_TrimLeft.f (B l) (⟨#[48]⟩ : ByteArray) = some (B (trimL l)) := by
        unfold strings_TrimLeft.f
        rw [e2, B_data, B_data, trimLeftS_48, if_pos ⟨by rw [asciiB, B_data]; decide, by rw [B_size]; decide⟩]; rfl
      have htl := trimL_len l
      simp only [Bool.false_eq_true, if_false, ht2, Option.bind_some, B_size, if_neg (show ¬ (((trimL l).length : Int) > 3000) by omega)]
      have := Parse_loop (trimL l).length (trimL l) 0 rfl (by omega) (trimL_all hall) (Int.le_refl 0) (big_billion (by decide) (by decide))
      rw [can_zero, Int.zero_mul, Int.zero_add, natL_trimL] at this
      exact this

end Go.Proofs.YtfcenlhaepckoaaDoor.P
namespace Go.Proofs.YtfcenlhaepckoaaDoor.P
set_option linter.all false
set_option linter.unusedSimpArgs false
open Go.RowKit Go.Proofs.YtfcenlhaepckoaaDoorW.PrintWords Go.Proofs.YtfcenlhaepckoaaDoorW.PrintLast Go.Proofs.YtfcenlhaepckoaaDoorW.PrintMore

theorem val_drop (l : List Int) (i : Nat) (h : i < l.length) : val (l.drop i) = rd l (i : Int) + 4294967296 * val (l.drop (i + 1)) := by
  rw [List.drop_eq_getElem_cons h, val]
  congr 1
  unfold rd; rw [Int.toNat_natCast, List.getD, List.getElem?_eq_getElem h]; rfl
theorem short_step {r x d : Int} (hd0 : 0 < d) (hd : d < 4294967296) (hr0 : 0 ≤ r) (hr : r < d) (hx0 : 0 ≤ x) (hx : x < 4294967296) :
    0 ≤ (r * 4294967296 + x) / d ∧ (r * 4294967296 + x) / d < 4294967296 ∧ 0 ≤ (r * 4294967296 + x) % d ∧ (r * 4294967296 + x) % d < d := by
  refine ⟨Int.ediv_nonneg (by omega) (by omega), ?_, Int.emod_nonneg _ (by omega), Int.emod_lt_of_pos _ hd0⟩
  apply Int.ediv_lt_of_lt_mul hd0
  have := Int.mul_le_mul_of_nonneg_right (show r + 1 ≤ d by omega) (show (0 : Int) ≤ 4294967296 by decide)
  omega
theorem short_loop (d : Int) (hd0 : 0 < d) (hd : d < 4294967296) (n : Nat) (hn : n ≤ 1000000) : ∀ m i x r, i + m = n → x.length = n → Lim x → 0 ≤ r → r < d →
    ∃ y, Ev (fun k => nat_short.l0 k x d r (n : Int) (i : Int)) ((r * PW m + val (x.take m)) % d, y) ∧ y.length = n ∧ Lim y ∧ val (y.take m) = (r * PW m + val (x.take m)) / d ∧ y.drop m = x.drop m := by
  intro m
  induction m with
  | zero =>
    intro i x r hi hx lx hr0 hr
    refine ⟨x, ?_, hx, lx, ?_, rfl⟩
    · refine Ev.step (fun k => by rw [nat_short.l0]) ?_
      simp only [if_neg (show ¬ ((i : Int) < (n : Int)) by omega), List.take_zero, PW_zero, val, Int.mul_one, Int.add_zero]
      rw [Int.emod_eq_of_lt hr0 hr, show r % 4294967296 = r by omega]
      exact Ev.now _
    · simp only [List.take_zero, PW_zero, val, Int.mul_one, Int.add_zero]
      rw [Int.ediv_eq_zero_of_lt hr0 hr]
  | succ m ih =>
    intro i x r hi hx lx hr0 hr
    have hxm := lim_rd lx (m : Int)
    have hs := short_step hd0 hd hr0 hr hxm.1 hxm.2
    have e1 : wrap64 (wrap64 ((x.length : Int) - 1) - (i : Int)) = (m : Int) := by rw [w64 (x := (x.length : Int) - 1) (by omega) (by omega), w64 (by omega) (by omega)]; omega
    obtain ⟨y, hy, hyl, ly, hyv, hyd⟩ := ih (i + 1) (x.set m ((r * 4294967296 + rd x (m : Int)) / d)) ((r * 4294967296 + rd x (m : Int)) % d) (by omega) (by rw [List.length_set]; exact hx) (lx.set _ hs.1 hs.2.1) hs.2.2.1 hs.2.2.2
    have et : (x.set m ((r * 4294967296 + rd x (m : Int)) / d)).take m = x.take m := by rw [List.take_set_of_le (Nat.le_refl _)]
    have key : r * PW (m + 1) + val (x.take (m + 1)) = PW m * (r * 4294967296 + rd x (m : Int)) + val (x.take m) := by
      rw [PW_succ, val_take_succ x m (by omega)]; grind
    have split : (r * 4294967296 + rd x (m : Int)) = d * ((r * 4294967296 + rd x (m : Int)) / d) + (r * 4294967296 + rd x (m : Int)) % d := (Int.mul_ediv_add_emod _ _).symm
    have key2 : r * PW (m + 1) + val (x.take (m + 1)) = ((r * 4294967296 + rd x (m : Int)) % d * PW m + val (x.take m)) + d * (PW m * ((r * 4294967296 + rd x (m : Int)) / d)) := by
      rw [key]
      generalize (r * 4294967296 + rd x (m : Int)) / d = Q at *
      generalize (r * 4294967296 + rd x (m : Int)) % d = M at *
      rw [split]; grind
    rw [et] at hy hyv
    refine ⟨y, ?_, hyl, ly, ?_, ?_⟩
    · refine Ev.step (fun k => by rw [nat_short.l0]) ?_
      simp only [e1, if_pos (show ((i : Int) < (n : Int)) by omega), if_pos (show (0 : Int) ≤ (m : Int) by omega), if_pos (show (m : Int) < (x.length : Int) by omega), u64w (show 0 ≤ d by omega) (show d < 18446744073709551616 by omega), if_neg (show ¬ (d = 0) by omega),
        u64w (show 0 ≤ r * 4294967296 by omega) (show r * 4294967296 < 18446744073709551616 by omega), u64w hxm.1 (show rd x (m : Int) < 18446744073709551616 by omega), orHi hxm.1 hxm.2 hr0 (show r < 4294967296 by omega), Int.toNat_natCast, w64s (show i ≤ 1000000000 by omega)]
      rw [Int.tdiv_eq_ediv_of_nonneg (by omega), Int.tmod_eq_emod_of_nonneg (by omega), u64w hs.1 (by omega), show (r * 4294967296 + rd x (m : Int)) / d % 4294967296 = (r * 4294967296 + rd x (m : Int)) / d by omega]
      rw [key2, Int.add_mul_emod_self_left]
      exact hy
    · have hym : rd y (m : Int) = (r * 4294967296 + rd x (m : Int)) / d := by
        have h0 := congrArg (fun l : List Int => l.getD 0 0) hyd
        simp only [List.getD, List.getElem?_drop, Nat.add_zero] at h0
        unfold rd
        rw [Int.toNat_natCast, List.getD, h0, List.getElem?_set_self (by omega)]; rfl
      rw [val_take_succ y m (by omega), hyv, hym, key2, Int.add_mul_ediv_left _ _ (by omega)]
    · have h1 := congrArg (List.drop 1) hyd
      rw [List.drop_drop, List.drop_drop, List.drop_set_of_lt (by omega)] at h1
      exact h1
theorem short_ev (x : List Int) (d : Int) (hd0 : 0 < d) (hd : d < 4294967296) (hn : x.length ≤ 1000000) (lx : Lim x) :
    ∃ y, Ev (fun k => nat_short.f k x d) (val x % d, y) ∧ y.length = x.length ∧ Lim y ∧ val y = val x / d := by
  obtain ⟨y, h1, h2, h3, h4, _⟩ := short_loop d hd0 hd x.length hn x.length 0 x 0 (by omega) rfl lx (by omega) hd0
  rw [List.take_length, Int.zero_mul, Int.zero_add] at h1 h4
  rw [List.take_of_length_le (by omega)] at h4
  exact ⟨y, h1, h2, h3, h4⟩
end Go.Proofs.YtfcenlhaepckoaaDoor.P
namespace Go.Proofs.YtfcenlhaepckoaaDoor.P
set_option linter.all false
set_option linter.unusedSimpArgs false
open Go.RowKit Go.Proofs.YtfcenlhaepckoaaDoorW.PrintWords Go.Proofs.YtfcenlhaepckoaaDoorW.PrintLast Go.Proofs.YtfcenlhaepckoaaDoorW.PrintMore

def digitsR (z : Int) : ByteArray := B (Lib.decDigits z.toNat)
theorem itoa_ev {r : Int} (h0 : 0 ≤ r) (h1 : r < 1000000000) : strconv_Itoa.f (wrap64 r) = some (B (Lib.decDigits r.toNat)) := by
  unfold strconv_Itoa.f
  rw [w64 (by omega) (by omega), if_pos (by omega)]
  unfold Lib.itoa
  rw [if_neg (by omega)]; rfl
theorem repeat_ev {n : Nat} (h : n ≤ 100) : strings_Repeat.f (⟨#[48]⟩ : ByteArray) (n : Int) = some (B (List.replicate n 48)) := by
  have e1 : (⟨#[48]⟩ : ByteArray) = B [48] := rfl
  unfold strings_Repeat.f
  rw [e1, B_data, B_size, repeatL_one, Int.toNat_natCast, if_pos ⟨by omega, by omega, by simp; omega⟩]; rfl
theorem can_nil_iff {z : Int} (h : 0 ≤ z) : can z = [] ↔ z = 0 := by
  constructor
  · intro q
    have := can_val h
    rw [q] at this
    exact this.symm
  · rintro rfl; exact can_zero
theorem can_pos {z : Int} (h : 0 < z) : 0 < (can z).length := by
  rw [List.length_pos_iff]
  intro q
  have := (can_nil_iff (Int.le_of_lt h)).1 q
  omega
/-- What stands behind the digits of a number. -/
def textR (z : Int) (t : List UInt8) : List UInt8 := if z = 0 then t else Lib.decDigits z.toNat ++ t
theorem Digits_loop (M : Nat) (hM : M ≤ 1000000000) : ∀ n (z : Int) (t : List UInt8), z.toNat = n → 0 ≤ z → (can z).length ≤ 1000000 → (textR z t).length ≤ M →
    Ev (fun k => nat_Digits.l0 k (can z) (B t)) (B (textR z t)) := by
  intro n
  induction n using Nat.strongRecOn with
  | ind n ih =>
    intro z t hzn hz hl ht
    by_cases h0 : z = 0
    · subst h0
      refine Ev.step (fun k => by rw [nat_Digits.l0]) ?_
      simp only [can_zero, List.length_nil, if_neg (show ¬ (((0 : Nat) : Int) > 0) by decide), textR, if_true]
      exact Ev.now _
    · have hlen := can_pos (show 0 < z by omega)
      refine Ev.step (fun k => by rw [nat_Digits.l0]) ?_
      simp only [if_pos (show ((can z).length : Int) > 0 by omega)]
      obtain ⟨y, hy, hyl, ly, hyv⟩ := short_ev (can z) 1000000000 (by decide) (by decide) hl (can_Lim z)
      rw [can_val hz] at hy hyv
      refine hy.bind ?_
      simp only [itoa_ev (show 0 ≤ z % 1000000000 by omega) (show z % 1000000000 < 1000000000 by omega), Option.bind_some]
      refine (right_ev y (by omega)).bind ?_
      have htr := tr_length_le y
      simp only [if_pos (show (0 : Int) ≤ ((tr y).length : Int) by omega), if_pos (show ((tr y).length : Int) ≤ ((can z).length : Int) by omega), Option.bind_some, Int.toNat_natCast, tr_take]
      rw [← can_of ly, hyv]
      have hq0 : 0 ≤ z / 1000000000 := by omega
      have hr9 : (z % 1000000000).toNat < 10 ^ 9 := by omega
      obtain ⟨p1, p2⟩ := dd_pad 9 (z % 1000000000).toNat (by decide) hr9
      have hcl : (can (z / 1000000000)).length ≤ 1000000 := by rw [← hyv, can_of ly]; omega
      by_cases hq : z / 1000000000 = 0
      · have hzr : z % 1000000000 = z := by omega
        rw [hq, can_zero, hzr]
        rw [textR, if_neg h0, List.length_append] at ht
        simp only [List.length_nil, if_neg (show ¬ (((0 : Nat) : Int) > 0) by decide), B_size, if_pos (show (Lib.decDigits z.toNat).length + t.length ≤ 9223372036854775807 by omega), B_append]
        have := ih 0 (by omega) 0 (Lib.decDigits z.toNat ++ t) rfl (by decide) (by rw [can_zero]; simp) (by rw [textR, if_pos rfl, List.length_append]; exact ht)
        rw [can_zero] at this
        rw [textR, if_neg h0]
        rw [textR, if_pos rfl] at this
        exact this
      · have hql := can_pos (show 0 < z / 1000000000 by omega)
        have hd9 : ((9 : Int) - (((B (Lib.decDigits (z % 1000000000).toNat)).size : Nat) : Int)) = ((9 - (Lib.decDigits (z % 1000000000).toNat).length : Nat) : Int) := by rw [B_size]; omega
        rw [hd9, w64 (x := ((9 - (Lib.decDigits (z % 1000000000).toNat).length : Nat) : Int)) (by omega) (by omega)]
        simp only [if_pos (show ((can (z / 1000000000)).length : Int) > 0 by omega), repeat_ev (show 9 - (Lib.decDigits (z % 1000000000).toNat).length ≤ 100 by omega), Option.bind_some, B_append, p2, B_size]
        have hj : Lib.decDigits z.toNat = Lib.decDigits (z / 1000000000).toNat ++ padK 9 (z % 1000000000).toNat := by
          rw [← dd_join 9 _ _ (show 0 < (z / 1000000000).toNat by omega) hr9]
          congr 1
          omega
        rw [textR, if_neg h0, hj, List.append_assoc] at ht ⊢
        have hlen9 := padK_length 9 (z % 1000000000).toNat
        rw [List.length_append, List.length_append] at ht
        simp only [List.length_replicate, List.length_append, hlen9]
        simp only [if_pos (show 9 - (Lib.decDigits (z % 1000000000).toNat).length + (Lib.decDigits (z % 1000000000).toNat).length ≤ 9223372036854775807 by omega), if_pos (show 9 + t.length ≤ 9223372036854775807 by omega)]
        have := ih (z / 1000000000).toNat (by omega) (z / 1000000000) (padK 9 (z % 1000000000).toNat ++ t) rfl hq0 hcl (by rw [textR, if_neg hq, List.length_append, List.length_append]; exact ht)
        rw [textR, if_neg hq] at this
        exact this
/-- How many digits a number of so many limbs has. -/
theorem dd_len : ∀ k u, u < 10 ^ (k + 1) → (Lib.decDigits u).length ≤ k + 1 := fun k u h => (dd_pad (k + 1) u (by omega) h).1
theorem PW_dec (n : Nat) : PW n ≤ ((10 ^ (10 * n) : Nat) : Int) := by
  induction n with
  | zero => decide
  | succ n ih =>
    rw [PW_succ, show 10 * (n + 1) = 10 * n + 10 by omega, Nat.pow_add, Int.natCast_mul]
    have := PW_pos n
    have e : (((10 ^ 10 : Nat)) : Int) = 10000000000 := by decide
    rw [e]
    omega
theorem text_len {z : Int} (hz : 0 ≤ z) {n : Nat} (h : z < PW n) : (Lib.decDigits z.toNat).length ≤ 10 * n + 1 := by
  apply dd_len
  have := PW_dec n
  rw [Nat.pow_succ]
  omega
theorem Digits_ev (a : List Int) (la : Lim a) (ha : a.length ≤ 100000) : Ev (fun k => nat_Digits.f k a) (digitsR (val a)) := by
  unfold nat_Digits.f digitsR
  have hz := val_nonneg la
  have hlt := val_lt la
  have h1 := tr_length_le a
  refine (Trim_ev a (by omega)).bind ?_
  rw [← can_of la] at h1 ⊢
  generalize val a = z at *
  by_cases h0 : z = 0
  · subst h0
    simp only [can_zero, List.length_nil, if_pos (show ((0 : Nat) : Int) = 0 from rfl)]
    have : (⟨#[48]⟩ : ByteArray) = B (Lib.decDigits (0 : Int).toNat) := by rw [show (0 : Int).toNat = 0 from rfl, dd_small (by decide)]; rfl
    rw [this]
    exact Ev.now _
  · have hp := can_pos (show 0 < z by omega)
    simp only [if_neg (show ¬ (((can z).length : Int) = 0) by omega)]
    have hle := PW_le ha
    have htl := text_len hz (show z < PW 100000 by omega)
    have := Digits_loop 1000001 (by decide) z.toNat z [] rfl hz (by omega) (by rw [textR, if_neg h0, List.append_nil]; omega)
    rw [textR, if_neg h0, List.append_nil] at this
    exact this

end Go.Proofs.YtfcenlhaepckoaaDoor.P
namespace Go.Proofs.YtfcenlhaepckoaaDoor.P
set_option linter.all false
set_option linter.unusedSimpArgs false
open Go.RowKit Go.Proofs.YtfcenlhaepckoaaDoorW.PrintWords Go.Proofs.YtfcenlhaepckoaaDoorW.PrintLast Go.Proofs.YtfcenlhaepckoaaDoorW.PrintMore
open Go.Proofs.YtfcenlhaepckoaaDoor.Q

def divR (x y : Int) : List Int × List Int × Int :=
  if (big x || big y) = true then ([], [], 2) else if y = 0 then ([], [], 10) else (can (x / y), can (x % y), 0)
theorem can_one_limb {z : Int} (h0 : 0 ≤ z) (h : (can z).length = 1) : can z = [z] ∧ 0 < z ∧ z < 4294967296 := by
  have hv := can_val h0
  have hL := can_Lim z
  match hc : can z, h with
  | [x], _ =>
    rw [hc] at hv hL
    rw [val_one] at hv
    subst hv
    have := (Lim.cons.1 hL).1
    refine ⟨rfl, ?_, this.2⟩
    rcases Int.lt_or_le 0 x with c | c
    · exact c
    · have : x = 0 := by omega
      subst this
      rw [can_zero] at hc; cases hc
theorem DivMod_ev (a b : List Int) (ha : a.length ≤ 100000) (hb : b.length ≤ 100000) (la : Lim a) (lb : Lim b)
    (hlong : 2 ≤ (can (val b)).length → val b ≤ val a → (can (val a)).length ≤ 256 → Ev (fun k => nat_long.f k (can (val a)) (can (val b))) (can (val a / val b), can (val a % val b))) :
    Ev (fun k => nat_DivMod.f k a b) (divR (val a) (val b)) := by
  unfold nat_DivMod.f divR
  have hza := val_nonneg la
  have hzb := val_nonneg lb
  refine (over2_ev a b (by omega) (by omega) la lb).bind ?_
  by_cases ho : (big (val a) || big (val b)) = true
  · simp only [if_pos ho]; exact Ev.now _
  · rw [if_neg ho]
    refine Ev.congr (fun k => if_neg ho) ?_
    have hba : big (val a) = false := by revert ho; cases big (val a) <;> simp
    have hla := not_big_len hba
    refine (right_ev b (by omega)).bind ?_
    have htb := tr_length_le b
    have hta := tr_length_le a
    have ca := can_of la
    have cb := can_of lb
    by_cases h0 : val b = 0
    · rw [if_pos h0]
      have : (tr b).length = 0 := by rw [← cb, h0, can_zero]; rfl
      refine Ev.congr (fun k => if_pos (by omega)) ?_
      exact Ev.now _
    · rw [if_neg h0]
      have hp := can_pos (show 0 < val b by omega)
      refine Ev.congr (fun k => if_neg (by rw [← cb]; omega)) ?_
      refine (Cmp_ev a b (by omega) (by omega) la lb).bind ?_
      by_cases hc : val a < val b
      · refine Ev.congr (fun k => if_pos (cmpR_neg.2 hc)) ?_
        refine (Trim_ev a (by omega)).bind ?_
        rw [Int.ediv_eq_zero_of_lt hza hc, Int.emod_eq_of_lt hza hc, can_zero, ca]
        exact Ev.now _
      · refine Ev.congr (fun k => if_neg (mt cmpR_neg.1 hc)) ?_
        refine cut_ev _ b (by omega) ?_
        rw [← cb]
        by_cases h1 : (can (val b)).length = 1
        · obtain ⟨e1, e2, e3⟩ := can_one_limb hzb h1
          refine Ev.congr (fun k => if_pos (by omega)) ?_
          refine (Trim_ev a (by omega)).bind ?_
          rw [← ca]
          refine Ev.congr (fun k => if_pos (by omega)) ?_
          have er : rd (can (val b)) 0 = val b := by rw [e1]; rfl
          rw [er]
          obtain ⟨y, hy, hyl, ly, hyv⟩ := short_ev (can (val a)) (val b) e2 e3 (by omega) (can_Lim _)
          rw [can_val hza] at hy hyv
          refine hy.bind ?_
          refine (right_ev y (by omega)).bind ?_
          have hty := tr_length_le y
          refine Ev.congr (fun k => if_pos (by omega)) ?_
          refine Ev.congr (fun k => if_pos (by omega)) ?_
          have hm0 := Int.emod_nonneg (val a) h0
          have hm1 := Int.emod_lt_of_pos (val a) e2
          have hof := Of_ev (val a % val b) hm0 (by omega)
          rw [u64w hm0 (by omega)]
          refine hof.bind ?_
          rw [Int.toNat_natCast, tr_take, ← can_of ly, hyv]
          exact Ev.now _
        · refine Ev.congr (fun k => if_neg (by omega)) ?_
          refine (right_ev a (by omega)).bind ?_
          refine Ev.congr (fun k => if_pos (by omega)) ?_
          refine Ev.congr (fun k => if_pos (by omega)) ?_
          have := hlong (by omega) (by omega) hla
          rw [Int.toNat_natCast, tr_take, ← ca]
          exact this.bind (Ev.now _)
/-! ### for numbers that are told -/
theorem can_is {z : Int} {l : List Int} (hl : Lim l) (ht : tr l = l) (hv : val l = z) : can z = l := by rw [← hv, can_of hl, ht]
theorem big_is {z : Int} {n : Nat} (h0 : 0 ≤ z) (hn : n ≤ 256) (h : z < PW n) : big z = false := by
  apply big_small h0
  have := PW_le hn
  omega
def ddF : Nat → Nat → List UInt8
  | 0, _ => []
  | f + 1, u => if u < 10 then [UInt8.ofNat (48 + u)] else ddF f (u / 10) ++ [UInt8.ofNat (48 + u % 10)]
theorem ddF_eq : ∀ f u, u < 10 ^ f → 0 < f → ddF f u = Lib.decDigits u := by
  intro f
  induction f with
  | zero => intro u _ h; omega
  | succ f ih =>
    intro u hu _
    rw [ddF]
    by_cases h : u < 10
    · rw [if_pos h, dd_small h]
    · rw [if_neg h, dd_big h]
      rw [Nat.pow_succ] at hu
      have hf : 0 < f := by
        cases f with
        | zero => simp at hu; omega
        | succ f => omega
      rw [ih (u / 10) (by omega) hf]
theorem evTo {α : Type} {g : Nat → Option α} {r s : α} (h : Ev g r) (e : r = s) : Ev g s := e ▸ h
end Go.Proofs.YtfcenlhaepckoaaDoor.P
namespace Go.Proofs.YtfcenlhaepckoaaDoor.P
set_option linter.all false
set_option linter.unusedSimpArgs false
open Go.RowKit Go.Proofs.YtfcenlhaepckoaaDoorW.PrintWords Go.Proofs.YtfcenlhaepckoaaDoorW.PrintLast Go.Proofs.YtfcenlhaepckoaaDoorW.PrintMore

def shlR (z n : Int) : List Int × Int :=
  if n < 0 then ([], 1) else if big z = true then ([], 2) else if can z = [] then ([], 0)
  else if n > 8192 ∨ lenR z + n > 8192 then ([], 2) else (can (z * PW (n.toNat / 32) * 2 ^ (n.toNat % 32)), 0)
theorem lenR_bound {z : Int} (hz : 0 ≤ z) (hb : big z = false) : 0 ≤ lenR z ∧ lenR z ≤ 8192 := by
  unfold lenR
  have hl := not_big_len hb
  split
  · omega
  · rename_i h
    have hp := List.length_pos_iff.2 h
    have hr := lim_rd (can_Lim z) (((can z).length : Int) - 1)
    have := bitLen_le (rd (can z) (((can z).length : Int) - 1)).toNat (by omega)
    omega
end Go.Proofs.YtfcenlhaepckoaaDoor.P
namespace Go.Proofs.YtfcenlhaepckoaaDoor.P
set_option linter.all false
set_option linter.unusedSimpArgs false
open Go.RowKit Go.Proofs.YtfcenlhaepckoaaDoorW.PrintWords Go.Proofs.YtfcenlhaepckoaaDoorW.PrintLast Go.Proofs.YtfcenlhaepckoaaDoorW.PrintMore
open Go.Proofs.YtfcenlhaepckoaaDoor.Q

theorem pow2_pos (n : Nat) : (0 : Int) < 2 ^ n := Int.pow_pos (by decide)
theorem pow2_le {m n : Nat} (h : m ≤ n) : (2 : Int) ^ m ≤ 2 ^ n := by
  obtain ⟨d, rfl⟩ := Nat.le.dest h
  rw [Int.pow_add]
  have := Int.mul_le_mul_of_nonneg_left (show (1 : Int) ≤ 2 ^ d by have := pow2_pos d; omega) (show (0 : Int) ≤ 2 ^ m by have := pow2_pos m; omega)
  omega
theorem pow2_31 {s : Nat} (h : s ≤ 31) : (2 : Int) ^ s ≤ 2147483648 := by
  have := pow2_le h
  rw [show (2 : Int) ^ 31 = 2147483648 by decide] at this
  exact this
theorem PW_two (n : Nat) : PW n = 2 ^ (32 * n) := by
  rw [Int.pow_mul, show (2 : Int) ^ 32 = 4294967296 by decide]; rfl
theorem shl_bound {x : Int} {s : Nat} (h0 : 0 ≤ x) (h1 : x < 4294967296) : 0 ≤ x * 2 ^ s ∧ x * 2 ^ s + 2 ^ s ≤ 4294967296 * 2 ^ s := by
  have hp := pow2_pos s
  refine ⟨Int.mul_nonneg h0 (by omega), ?_⟩
  have := Int.mul_le_mul_of_nonneg_right (show x + 1 ≤ 4294967296 by omega) (show 0 ≤ (2 : Int) ^ s by omega)
  rw [Int.add_mul] at this
  omega
theorem shl_limb {x : Int} {s : Nat} (h0 : 0 ≤ x) (h1 : x < 4294967296) (hs : s ≤ 31) : shl .u64 (IntKind.u64.wrap x) (s : Int) = x * 2 ^ s := by
  have hp := pow2_31 hs
  have hb := shl_bound (s := s) h0 h1
  have hq := pow2_pos s
  rw [u64w h0 (by omega)]
  show IntKind.u64.wrap (x * 2 ^ min (Int.toNat (s : Int)) 64) = _
  rw [Int.toNat_natCast, Nat.min_eq_left (by omega), u64w hb.1 (by omega)]
theorem or_shift {c x : Int} {s : Nat} (hc0 : 0 ≤ c) (hc : c < 2 ^ s) (h0 : 0 ≤ x) (h1 : x < 4294967296) (hs : s ≤ 31) : bits .or .u64 c (x * 2 ^ s) = c + x * 2 ^ s := by
  have hp := pow2_31 hs
  have hb := shl_bound (s := s) h0 h1
  rw [or_comm64 hc0 (by omega) hb.1 (by omega), bits_join .u64 64 (by decide) wraps64 s (x * 2 ^ s) c hb.1 (Int.mul_emod_left _ _) (by omega) hc0 hc (by omega)]
  omega
theorem shift_step {D q c u x p : Int} (h : D + q * c = p * u) : D + q * ((c + x * p) % 4294967296) + 4294967296 * q * ((c + x * p) / 4294967296) = p * (u + q * x) := by
  have e : (c + x * p) % 4294967296 + 4294967296 * ((c + x * p) / 4294967296) = c + x * p := by omega
  generalize (c + x * p) % 4294967296 = r at *
  generalize (c + x * p) / 4294967296 = t at *
  have : q * (r + 4294967296 * t) = q * (c + x * p) := by rw [e]
  grind
theorem set_take_succ (x : List Int) (i : Nat) (v : Int) (h : i < x.length) : (x.set i v).take (i + 1) = x.take i ++ [v] := by
  rw [take_rd _ i (by rw [List.length_set]; exact h), List.take_set_of_le (Nat.le_refl _), rd_set_eq _ _ _ h]
theorem shift_loop (a : List Int) (la : Lim a) (s : Nat) (hs : s ≤ 31) (L : Nat) (hL : a.length ≤ L) (hL2 : L ≤ 1000000) : ∀ d i x c, i + d = L → x.length = L → Lim (x.take i) → 0 ≤ c → c < 2 ^ s →
    val (x.take i) + PW i * c = 2 ^ s * val (a.take i) →
    ∃ y e, Ev (fun k => nat_shift.l0 k x a (s : Int) c (L : Int) (i : Int)) y ∧ y.length = L ∧ Lim y ∧ 0 ≤ e ∧ e < 2 ^ s ∧ val y + PW L * e = 2 ^ s * val a := by
  intro d
  induction d with
  | zero =>
    intro i x c hi hx lx hc0 hc hv
    refine ⟨x, c, ?_, hx, ?_, hc0, hc, ?_⟩
    · refine Ev.step (fun k => by rw [nat_shift.l0]) ?_
      simp only [if_neg (show ¬ ((i : Int) < (L : Int)) by omega)]
      exact Ev.now _
    · rw [List.take_of_length_le (by omega)] at lx; exact lx
    · rw [List.take_of_length_le (by omega), List.take_of_length_le (by omega), show i = L by omega] at hv
      exact hv
  | succ d ih =>
    intro i x c hi hx lx hc0 hc hv
    have hx1 := lim_rd la (i : Int)
    have hp := pow2_31 hs
    have hpp := pow2_pos s
    have hb := shl_bound (s := s) hx1.1 hx1.2
    have hc' : (c + rd a (i : Int) * 2 ^ s) / 4294967296 < 2 ^ s := by
      apply Int.ediv_lt_of_lt_mul (by decide)
      rw [Int.mul_comm (2 ^ s)]; omega
    have hT := set_take_succ x i ((c + rd a (i : Int) * 2 ^ s) % 4294967296) (by omega)
    obtain ⟨y, e, hy, h1, h2, h3, h4, h5⟩ := ih (i + 1) (x.set i ((c + rd a (i : Int) * 2 ^ s) % 4294967296)) ((c + rd a (i : Int) * 2 ^ s) / 4294967296) (by omega) (by rw [List.length_set]; exact hx)
      (by rw [hT]; exact Lim.append.2 ⟨lx, Lim.one (by omega) (by omega)⟩) (by omega) hc' (by
        rw [hT, val_append, val_one, List.length_take, Nat.min_eq_left (by omega), val_take_succ', PW_succ]
        exact shift_step hv)
    refine ⟨y, e, ?_, h1, h2, h3, h4, h5⟩
    refine Ev.step (fun k => by rw [nat_shift.l0]) ?_
    simp only [if_pos (show ((i : Int) < (L : Int)) by omega), if_pos (show (0 : Int) ≤ (i : Int) by omega), if_pos (show (0 : Int) ≤ (s : Int) by omega), if_pos (show (i : Int) < (x.length : Int) by omega), Int.toNat_natCast, w64s (show i ≤ 1000000000 by omega)]
    by_cases hia : (i : Int) < (a.length : Int)
    · simp only [if_pos hia, shl_limb hx1.1 hx1.2 hs, or_shift hc0 hc hx1.1 hx1.2 hs]
      exact hy
    · simp only [if_neg hia]
      rw [rd_end a i (by omega), Int.zero_mul, Int.add_zero] at hy
      exact hy
theorem shift_ev (x a : List Int) (la : Lim a) (s : Nat) (hs : s ≤ 31) (hL : a.length ≤ x.length) (hL2 : x.length ≤ 1000000) :
    ∃ y e, Ev (fun k => nat_shift.f k x a (s : Int)) y ∧ y.length = x.length ∧ Lim y ∧ 0 ≤ e ∧ e < 2 ^ s ∧ val y + PW x.length * e = 2 ^ s * val a :=
  shift_loop a la s hs x.length hL hL2 x.length 0 x 0 (by omega) rfl (by rw [List.take_zero]; exact Lim.nil) (Int.le_refl 0) (pow2_pos s) (by simp [val])
/-- Where the answer fits. -/
theorem shift_fits (x a : List Int) (la : Lim a) (s : Nat) (hs : s ≤ 31) (hL : a.length ≤ x.length) (hL2 : x.length ≤ 1000000) (hf : 2 ^ s * val a < PW x.length) :
    ∃ y, Ev (fun k => nat_shift.f k x a (s : Int)) y ∧ y.length = x.length ∧ Lim y ∧ val y = 2 ^ s * val a := by
  obtain ⟨y, e, h1, h2, h3, h4, h5, h6⟩ := shift_ev x a la s hs hL hL2
  have hn := val_nonneg h3
  have hp := PW_pos x.length
  have he : e = 0 := by
    rcases Int.lt_or_le 0 e with c | c
    · have := Int.mul_le_mul_of_nonneg_left (show 1 ≤ e by omega) (show 0 ≤ PW x.length by omega)
      omega
    · omega
  subst he
  exact ⟨y, h1, h2, h3, by rw [← h6]; omega⟩
theorem Shl_tail (p : List Int) (lp : Lim p) (hp : p.length ≤ 1000) (n : Int) (hn0 : 0 ≤ n) (hn : n ≤ 8192) :
    Ev (fun k => if 0 ≤ (wrap64 ((wrap64 ((wrap64 (Int.tdiv n 32)) + (p.length : Int))) + 1)) then (if (wrap64 ((wrap64 ((wrap64 (Int.tdiv n 32)) + (p.length : Int))) + 1) : Int).toNat ≤ 70368744177664 then ((some (List.replicate (wrap64 ((wrap64 ((wrap64 (Int.tdiv n 32)) + (p.length : Int))) + 1) : Int).toNat 0 : List Int)).bind fun y113 => (if 0 ≤ (wrap64 (Int.tdiv n 32)) then (if (wrap64 (Int.tdiv n 32)) ≤ (y113.length : Int) then (if (wrap64 (Int.tdiv n 32)) < (y113.length : Int) then ((nat_shift.f k (y113.drop ((wrap64 (Int.tdiv n 32)) : Int).toNat) p (Int.tmod n 32)).bind fun t120 => ((some (y113.take (((wrap64 (Int.tdiv n 32)) : Int).toNat) ++ t120 ++ y113.drop y113.length : List Int)).bind fun y121 => ((nat_right.f k y121).bind fun t122 => (if 0 ≤ t122 then (if t122 ≤ (y113.length : Int) then (some ((y121.take (t122 : Int).toNat), (0 : Int))) else (none)) else (none))))) else (none)) else (none)) else (none))) else (none)) else (none))
      (can (val p * PW (n.toNat / 32) * 2 ^ (n.toNat % 32)), (0 : Int)) := by
  have e1 : wrap64 (Int.tdiv n 32) = ((n.toNat / 32 : Nat) : Int) := by rw [Int.tdiv_eq_ediv_of_nonneg hn0, w64 (by omega) (by omega)]; omega
  have e2 : Int.tmod n 32 = ((n.toNat % 32 : Nat) : Int) := by rw [Int.tmod_eq_emod_of_nonneg hn0]; omega
  have hs : n.toNat % 32 ≤ 31 := by omega
  have hq : n.toNat / 32 ≤ 256 := by omega
  rw [e1, e2]
  generalize n.toNat % 32 = s at hs
  generalize n.toNat / 32 = q at hq
  clear e1 e2
  rw [w64add (show q + p.length ≤ 1000000000 by omega), w64s (show q + p.length ≤ 1000000000 by omega), Int.toNat_natCast]
  generalize hL : q + p.length + 1 = L
  have hd : (List.replicate L (0 : Int)).drop q = List.replicate (p.length + 1) 0 := by rw [List.drop_replicate, show L - q = p.length + 1 by omega]
  have ht : (List.replicate L (0 : Int)).take q = List.replicate q 0 := by rw [List.take_replicate, Nat.min_eq_left (by omega)]
  have hz : (List.replicate L (0 : Int)).drop L = [] := List.drop_of_length_le (by simp)
  simp only [if_pos (show (0 : Int) ≤ (L : Int) by omega), if_pos (show L ≤ 70368744177664 by omega), Option.bind_some, if_pos (show (0 : Int) ≤ (q : Int) by omega), List.length_replicate, if_pos (show (q : Int) ≤ (L : Int) by omega), if_pos (show (q : Int) < (L : Int) by omega), Int.toNat_natCast, hd, ht, hz, List.append_nil]
  have hv := val_lt lp
  have hv0 := val_nonneg lp
  have hpw := PW_pos p.length
  have hp31 := pow2_31 hs
  have hp0 := pow2_pos s
  have hfit : 2 ^ s * val p < PW (List.replicate (p.length + 1) (0 : Int)).length := by
    rw [List.length_replicate, PW_succ]
    have h1 := Int.mul_le_mul_of_nonneg_right hp31 hv0
    omega
  obtain ⟨y, hy, hyl, ly, hyv⟩ := shift_fits (List.replicate (p.length + 1) 0) p lp s hs (by simp) (by simp; omega) hfit
  rw [List.length_replicate] at hyl
  refine hy.bind ?_
  have hlen : (List.replicate q (0 : Int) ++ y).length = L := by simp; omega
  have hL2 : Lim (List.replicate q (0 : Int) ++ y) := Lim.append.2 ⟨Lim.zeros _, ly⟩
  refine (right_ev _ (by omega)).bind ?_
  have h1 := tr_length_le (List.replicate q (0 : Int) ++ y)
  simp only [if_pos (show (0 : Int) ≤ ((tr (List.replicate q (0 : Int) ++ y)).length : Int) by omega), if_pos (show ((tr (List.replicate q (0 : Int) ++ y)).length : Int) ≤ (L : Int) by omega), Int.toNat_natCast, tr_take]
  rw [← can_of hL2, val_append, val_zeros, List.length_replicate, hyv, Int.zero_add, show PW q * (2 ^ s * val p) = val p * PW q * 2 ^ s by grind]
  exact Ev.now _
theorem Shl_ev (a : List Int) (n : Int) (la : Lim a) (ha : a.length ≤ 100000) (hn : n ≤ 9223372036854775807) : Ev (fun k => nat_Shl.f k a n) (shlR (val a) n) := by
  unfold nat_Shl.f shlR
  have hz := val_nonneg la
  by_cases c1 : n < 0
  · simp only [if_pos c1]; exact Ev.now _
  · simp only [if_neg c1]
    refine (over1_ev a (by omega) la).bind ?_
    cases hb : big (val a) with
    | true => simp only [if_true]; exact Ev.now _
    | false =>
      simp only [Bool.false_eq_true, if_false]
      refine (right_ev a (by omega)).bind ?_
      rw [can_of la]
      have hl : (tr a).length ≤ 256 := by have := not_big_len hb; rw [can_of la] at this; exact this
      by_cases c2 : tr a = []
      · simp only [c2, List.length_nil, if_true]; exact Ev.now _
      · have hp := List.length_pos_iff.2 c2
        simp only [if_neg c2, if_neg (show ¬ (((tr a).length : Int) = 0) by omega)]
        have bad : Ev (fun k => nat_Shl.j0 k a n true) (([] : List Int), (2 : Int)) := by
          refine Ev.step (fun k => by rw [nat_Shl.j0]) ?_
          simp only [if_true]; exact Ev.now _
        by_cases c3 : n > 8192
        · simp only [if_pos c3, c3, true_or, if_true]; exact bad
        · simp only [if_neg c3, c3, false_or]
          refine (Len_ev a (by omega) la).bind ?_
          have hlb := lenR_bound hz hb
          rw [w64 (x := lenR (val a) + n) (by omega) (by omega)]
          by_cases c4 : lenR (val a) + n > 8192
          · simp only [c4, decide_true, if_true]; exact bad
          · simp only [decide_eq_false c4, if_neg c4]
            refine Ev.step (fun k => by rw [nat_Shl.j0]) ?_
            simp only [Bool.false_eq_true, if_false]
            refine cut_ev _ a (by omega) ?_
            have := Shl_tail (tr a) (tr_Lim la) (by omega) n (by omega) (by omega)
            rw [tr_val] at this
            exact this
end Go.Proofs.YtfcenlhaepckoaaDoor.P
namespace Go.Proofs.YtfcenlhaepckoaaDoor.P
set_option linter.all false
set_option linter.unusedSimpArgs false
open Go.RowKit Go.Proofs.YtfcenlhaepckoaaDoorW.PrintWords Go.Proofs.YtfcenlhaepckoaaDoorW.PrintLast Go.Proofs.YtfcenlhaepckoaaDoorW.PrintMore

def shrR (z n : Int) : List Int × Bool × Int :=
  if n < 0 then ([], false, 1) else if big z = true then ([], false, 2) else (can (z / 2 ^ n.toNat), decide (z % 2 ^ n.toNat ≠ 0), 0)

theorem shr_limb (x : Int) {s : Nat} (hs : s ≤ 31) : shr .u64 x (s : Int) = x / 2 ^ s := by
  show x / 2 ^ min (Int.toNat (s : Int)) 64 = _
  rw [Int.toNat_natCast, Nat.min_eq_left (by omega)]
theorem pow32_split {s : Nat} (hs : s ≤ 31) : (4294967296 : Int) = 2 ^ s * 2 ^ (32 - s) := by
  rw [← Int.pow_add, show s + (32 - s) = 32 by omega]; decide
theorem mask_ev {x : Int} {s : Nat} (h0 : 0 ≤ x) (h1 : x < 4294967296) (hs : s ≤ 31) : bits .and .u32 x (((shl .u32 1 (s : Int)) - 1) % 4294967296) = x % 2 ^ s := by
  have hp := pow2_31 hs
  have hpp := pow2_pos s
  have e : shl .u32 1 (s : Int) = 2 ^ s := by
    show IntKind.u32.wrap (1 * 2 ^ min (Int.toNat (s : Int)) 32) = _
    rw [Int.toNat_natCast, Nat.min_eq_left (by omega), Int.one_mul, IntKind.wrap_u32]; omega
  rw [e, show (2 ^ s - 1 : Int) % 4294967296 = 2 ^ s - 1 by omega]
  obtain ⟨a, rfl⟩ := Int.eq_ofNat_of_zero_le h0
  have e2 : (2 ^ s - 1 : Int) = ((2 ^ s - 1 : Nat) : Int) := by
    have : 0 < 2 ^ s := Nat.pow_pos (by decide)
    rw [Int.ofNat_sub (by omega)]; simp
  have hk : ∀ n : Int, 0 ≤ n → n < 2 ^ 32 → IntKind.u32.wrap n = n := fun n h0 h1 => by rw [IntKind.wrap_u32]; omega
  have hN : (2 ^ s : Nat) ≤ 2147483648 := by
    have := Nat.pow_le_pow_right (n := 2) (by decide) hs
    omega
  rw [e2, (bits_nat .u32 32 (by decide) hk a (2 ^ s - 1) (by omega) (by omega)).1, Nat.and_two_pow_sub_one_eq_mod]
  rw [Int.natCast_emod]; simp
/-- One limb of a shift down: x is the limb, V what stands above. -/
theorem shr_step {x V x1 : Int} {s : Nat} (hs : s ≤ 31) (h0 : 0 ≤ x) (h1 : x < 4294967296) (hV : V % 4294967296 = x1) :
    (x + x1 * 4294967296) / 2 ^ s % 4294967296 + 4294967296 * (V / 2 ^ s) = (x + 4294967296 * V) / 2 ^ s := by
  have hpp := pow2_pos s
  have hsp := pow32_split hs
  have e1 : (x + 4294967296 * V) / 2 ^ s / 4294967296 = V / 2 ^ s := by
    rw [Int.ediv_ediv_of_nonneg (by omega), Int.mul_comm (2 ^ s), ← Int.ediv_ediv_of_nonneg (by decide), Int.add_mul_ediv_left _ _ (by decide), Int.ediv_eq_zero_of_lt h0 h1, Int.zero_add]
  have e2 : (x + 4294967296 * V) / 2 ^ s % 4294967296 = (x + x1 * 4294967296) / 2 ^ s % 4294967296 := by
    obtain ⟨V2, hV2⟩ : ∃ V2, V = x1 + 4294967296 * V2 := ⟨V / 4294967296, by omega⟩
    have e3 : x + 4294967296 * V = x + x1 * 4294967296 + 2 ^ s * (4294967296 * (2 ^ (32 - s) * V2)) := by
      rw [hV2]
      generalize (2 : Int) ^ s = p at *
      generalize (2 : Int) ^ (32 - s) = r at *
      have : (4294967296 : Int) * 4294967296 * V2 = p * r * 4294967296 * V2 := by rw [← hsp]
      grind
    rw [e3, Int.add_mul_ediv_left _ _ (by omega), Int.add_mul_emod_self_left]
  have := Int.emod_add_mul_ediv ((x + 4294967296 * V) / 2 ^ s) 4294967296
  rw [e1, e2] at this
  exact this
theorem val_drop_mod {l : List Int} (h : Lim l) (i : Nat) : val (l.drop i) % 4294967296 = rd l (i : Int) := by
  by_cases hi : i < l.length
  · rw [val_drop l i hi]
    have := lim_rd h (i : Int)
    omega
  · rw [List.drop_of_length_le (by omega), rd_end l i (by omega)]; rfl
theorem Shr_loop (out : List Int) (lo : Lim out) (hL : out.length ≤ 1000000) (s : Nat) (hs : s ≤ 31) (lost : Bool) : ∀ d i done, i + d = out.length → done.length = i → Lim done → val done + PW i * (val (out.drop i) / 2 ^ s) = val out / 2 ^ s →
    Ev (fun k => nat_Shr.l0 k lost (done ++ out.drop i) (s : Int) (out.length : Int) (i : Int)) (can (val out / 2 ^ s), lost, (0 : Int)) := by
  intro d
  induction d with
  | zero =>
    intro i done hi hd hL2 hv
    refine Ev.step (fun k => by rw [nat_Shr.l0]) ?_
    rw [List.drop_of_length_le (by omega)] at hv ⊢
    simp only [val, Int.zero_ediv, Int.mul_zero, Int.add_zero] at hv
    simp only [if_neg (show ¬ ((i : Int) < (out.length : Int)) by omega), List.append_nil]
    refine (right_ev done (by omega)).bind ?_
    have h1 := tr_length_le done
    simp only [if_pos (show (0 : Int) ≤ ((tr done).length : Int) by omega), if_pos (show ((tr done).length : Int) ≤ (done.length : Int) by omega), Int.toNat_natCast, tr_take]
    rw [← can_of hL2, hv]
    exact Ev.now _
  | succ d ih =>
    intro i done hi hd hL2 hv
    have hlt : i < out.length := by omega
    have hx := lim_rd lo (i : Int)
    have hx1 := lim_rd lo ((i + 1 : Nat) : Int)
    have hm := val_drop_mod lo (i + 1)
    have hst := shr_step hs hx.1 hx.2 hm
    have hlen : (done ++ out.drop i).length = out.length := by rw [List.length_append, List.length_drop]; omega
    have r0 : rd (done ++ out.drop i) (i : Int) = rd out (i : Int) := by
      unfold rd; rw [Int.toNat_natCast, List.getD, List.getD, List.getElem?_append_right (by omega), List.getElem?_drop, show i + (i - done.length) = i by omega]
    have r1 : rd (done ++ out.drop i) ((i + 1 : Nat) : Int) = rd out ((i + 1 : Nat) : Int) := by
      unfold rd; rw [Int.toNat_natCast, List.getD, List.getD, List.getElem?_append_right (by omega), List.getElem?_drop, show i + (i + 1 - done.length) = i + 1 by omega]
    have hset : ∀ v, (done ++ out.drop i).set i v = (done ++ [v]) ++ out.drop (i + 1) := by
      intro v
      rw [List.drop_eq_getElem_cons hlt, List.set_append_right _ _ (by omega), show i - done.length = 0 by omega, List.set_cons_zero, List.append_assoc]; rfl
    have hor : bits .or .u64 (rd out (i : Int)) (rd out ((i + 1 : Nat) : Int) * 4294967296) = rd out (i : Int) + rd out ((i + 1 : Nat) : Int) * 4294967296 := orLo hx.1 hx.2 hx1.1 hx1.2
    have next := ih (i + 1) (done ++ [(rd out (i : Int) + rd out ((i + 1 : Nat) : Int) * 4294967296) / 2 ^ s % 4294967296]) (by omega) (by simp [hd]) (Lim.append.2 ⟨hL2, Lim.one (by omega) (by omega)⟩) (by
      rw [val_append, val_one, hd, ← hv, PW_succ, val_drop out i hlt, ← hst]; grind)
    refine Ev.step (fun k => by rw [nat_Shr.l0]) ?_
    simp only [if_pos (show ((i : Int) < (out.length : Int)) by omega), if_pos (show (0 : Int) ≤ (i : Int) by omega), if_pos (show (i : Int) < ((done ++ out.drop i).length : Int) by omega), w64s (show i ≤ 1000000000 by omega), if_pos (show (0 : Int) ≤ ((i + 1 : Nat) : Int) by omega), if_pos (show (0 : Int) ≤ (s : Int) by omega), r0, r1, Int.toNat_natCast, hset,
      u64w hx.1 (show rd out (i : Int) < 18446744073709551616 by omega), u64w hx1.1 (show rd out ((i + 1 : Nat) : Int) < 18446744073709551616 by omega), u64w (show 0 ≤ rd out ((i + 1 : Nat) : Int) * 4294967296 by omega) (show rd out ((i + 1 : Nat) : Int) * 4294967296 < 18446744073709551616 by omega), hor, shr_limb _ hs]
    by_cases hi1 : ((i + 1 : Nat) : Int) < ((done ++ out.drop i).length : Int)
    · simp only [if_pos hi1]; exact next
    · simp only [if_neg hi1]
      rw [rd_end out (i + 1) (by omega), Int.zero_mul, Int.add_zero] at next
      exact next
theorem Shr_j1 (out : List Int) (lo : Lim out) (hL : out.length ≤ 1000000) (s : Nat) (hs : s ≤ 31) (lost : Bool) :
    Ev (fun k => nat_Shr.j1 k lost out (s : Int)) (can (val out / 2 ^ s), lost, (0 : Int)) := by
  refine Ev.step (fun k => by rw [nat_Shr.j1]) ?_
  exact Shr_loop out lo hL s hs lost out.length 0 [] (by omega) rfl Lim.nil (by simp [val, PW_zero])
theorem val_mod_pow {l : List Int} (h : Lim l) {s : Nat} (hs : s ≤ 31) : val l % 2 ^ s = rd l 0 % 2 ^ s := by
  have h0 := val_drop_mod h 0
  rw [List.drop_zero] at h0
  have hsp := pow32_split hs
  have e := Int.emod_add_mul_ediv (val l) 4294967296
  rw [h0] at e
  generalize val l / 4294967296 = V at e
  rw [← e, hsp, Int.mul_assoc, Int.add_mul_emod_self_left]; rfl
theorem Shr_j0 (out : List Int) (lo : Lim out) (hL : out.length ≤ 1000000) (hp : 0 < out.length) (s : Nat) (hs : s ≤ 31) (lost : Bool) :
    Ev (fun k => nat_Shr.j0 k lost out (s : Int) false) (can (val out / 2 ^ s), lost || decide (val out % 2 ^ s ≠ 0), (0 : Int)) := by
  refine Ev.step (fun k => by rw [nat_Shr.j0]) ?_
  cases lost with
  | true => simp only [Bool.false_eq_true, if_false, if_true, Bool.true_or]; exact Shr_j1 out lo hL s hs true
  | false =>
    have hx := lim_rd lo 0
    simp only [Bool.false_eq_true, if_false, if_pos (show (0 : Int) < (out.length : Int) by omega), if_pos (show (0 : Int) ≤ (s : Int) by omega), mask_ev hx.1 hx.2 hs, Bool.false_or]
    have := Shr_j1 out lo hL s hs (rd out 0 % 2 ^ s != 0)
    rw [val_mod_pow lo hs]
    have e : decide (rd out 0 % 2 ^ s ≠ 0) = (rd out 0 % 2 ^ s != 0) := by
      rw [Bool.eq_iff_iff]; simp
    rw [e]
    exact this
theorem val_pos_iff {l : List Int} (h : Lim l) : (tr l).length > 0 ↔ val l ≠ 0 := by
  rw [← can_of h]
  have hn := val_nonneg h
  have := can_length hn 0
  rw [PW_zero] at this
  omega
theorem Shr_tail (p : List Int) (lp : Lim p) (hp : p.length ≤ 1000) (n : Int) (hn0 : 0 ≤ n) (hn : n ≤ 9223372036854775807) :
    Ev (fun k => if 0 ≤ (mn (wrap64 (Int.tdiv n 32)) (p.length : Int)) then (if (mn (wrap64 (Int.tdiv n 32)) (p.length : Int)) ≤ (p.length : Int) then ((nat_right.f k (p.take ((mn (wrap64 (Int.tdiv n 32)) (p.length : Int)) : Int).toNat)).bind fun t263 => (if 0 ≤ (wrap64 ((p.length : Int) - (mn (wrap64 (Int.tdiv n 32)) (p.length : Int)))) then (if (wrap64 ((p.length : Int) - (mn (wrap64 (Int.tdiv n 32)) (p.length : Int))) : Int).toNat ≤ 70368744177664 then ((some (List.replicate (wrap64 ((p.length : Int) - (mn (wrap64 (Int.tdiv n 32)) (p.length : Int))) : Int).toNat 0 : List Int)).bind fun y264 => ((some (overlay_ y264 (p.drop ((mn (wrap64 (Int.tdiv n 32)) (p.length : Int)) : Int).toNat) : List Int)).bind fun y272 => (if (y264.length : Int) = 0 then (nat_Shr.j0 k (decide (t263 > 0)) y272 (Int.tmod n 32) true) else (nat_Shr.j0 k (decide (t263 > 0)) y272 (Int.tmod n 32) (decide ((mn (wrap64 (Int.tdiv n 32)) (p.length : Int)) < (wrap64 (Int.tdiv n 32)))))))) else (none)) else (none))) else (none)) else (none))
      (can (val p / 2 ^ n.toNat), decide (val p % 2 ^ n.toNat ≠ 0), (0 : Int)) := by
  have e1 : wrap64 (Int.tdiv n 32) = ((n.toNat / 32 : Nat) : Int) := by rw [Int.tdiv_eq_ediv_of_nonneg hn0, w64 (by omega) (by omega)]; omega
  have e2 : Int.tmod n 32 = ((n.toNat % 32 : Nat) : Int) := by rw [Int.tmod_eq_emod_of_nonneg hn0]; omega
  have hs : n.toNat % 32 ≤ 31 := by omega
  have hN : n.toNat = 32 * (n.toNat / 32) + n.toNat % 32 := by omega
  rw [e1, e2]
  generalize n.toNat / 32 = q at hN ⊢
  generalize n.toNat % 32 = s at hs hN ⊢
  rw [hN]
  clear hN e1 e2 hn0 hn
  have e3 : mn (q : Int) (p.length : Int) = ((min q p.length : Nat) : Int) := by unfold mn; split <;> omega
  rw [e3]
  have hv0 := val_nonneg lp
  by_cases hq : q < p.length
  · rw [Nat.min_eq_left (by omega), w64 (x := (p.length : Int) - (q : Int)) (by omega) (by omega), show (p.length : Int) - (q : Int) = ((p.length - q : Nat) : Int) by omega, Int.toNat_natCast, Int.toNat_natCast]
    generalize hm : p.length - q = m
    have ho : overlay_ (List.replicate m 0) (p.drop q) = p.drop q := by
      have hz : (List.replicate m (0 : Int)).drop m = [] := List.drop_of_length_le (by simp)
      unfold overlay_
      rw [List.length_replicate, List.length_drop, hm, Nat.min_self, List.take_of_length_le (by rw [List.length_drop]; omega), hz, List.append_nil]
    simp only [if_pos (show (0 : Int) ≤ (q : Int) by omega), if_pos (show (q : Int) ≤ (p.length : Int) by omega), if_pos (show (0 : Int) ≤ (m : Int) by omega), if_pos (show m ≤ 70368744177664 by omega), Option.bind_some, List.length_replicate, if_neg (show ¬ ((m : Int) = 0) by omega), ho, decide_eq_false (show ¬ ((q : Int) < (q : Int)) by omega)]
    refine (right_ev _ (by rw [List.length_take]; omega)).bind ?_
    have key := Shr_j0 (p.drop q) (lp.drop q) (by rw [List.length_drop]; omega) (by rw [List.length_drop]; omega) s hs (decide (((tr (p.take q)).length : Int) > 0))
    have hsplit : val p = val (p.take q) + PW q * val (p.drop q) := by
      have := val_append (p.take q) (p.drop q)
      rw [List.take_append_drop, List.length_take, Nat.min_eq_left (by omega)] at this
      exact this
    have ht := val_take_lt lp q
    have hP := PW_pos q
    have h2 := pow2_pos s
    rw [Int.pow_add, ← PW_two, hsplit]
    have d1 : (val (p.take q) + PW q * val (p.drop q)) / (PW q * 2 ^ s) = val (p.drop q) / 2 ^ s := by
      rw [← Int.ediv_ediv_of_nonneg (by omega), Int.add_mul_ediv_left _ _ (by omega), Int.ediv_eq_zero_of_lt ht.1 ht.2, Int.zero_add]
    have d2 : (val (p.take q) + PW q * val (p.drop q)) % (PW q * 2 ^ s) = val (p.take q) + PW q * (val (p.drop q) % 2 ^ s) := by
      have := Int.emod_add_mul_ediv (val (p.take q) + PW q * val (p.drop q)) (PW q * 2 ^ s)
      rw [d1] at this
      have h3 := Int.emod_add_mul_ediv (val (p.drop q)) (2 ^ s)
      generalize val (p.drop q) % 2 ^ s = M at *
      generalize val (p.drop q) / 2 ^ s = D at *
      rw [← h3] at this ⊢
      grind
    rw [d1, d2]
    have hM := Int.emod_nonneg (val (p.drop q)) (show (2 : Int) ^ s ≠ 0 by omega)
    have e : decide (val (p.take q) + PW q * (val (p.drop q) % 2 ^ s) ≠ 0) = (decide (((tr (p.take q)).length : Int) > 0) || decide (val (p.drop q) % 2 ^ s ≠ 0)) := by
      have hi := val_pos_iff (lp.take q)
      have hmul := Int.mul_nonneg (show 0 ≤ PW q by omega) hM
      have hz : PW q * (val (p.drop q) % 2 ^ s) = 0 ↔ val (p.drop q) % 2 ^ s = 0 := by
        rw [Int.mul_eq_zero]
        constructor
        · rintro (h | h)
          · omega
          · exact h
        · exact Or.inr
      rw [Bool.eq_iff_iff]
      simp only [Bool.or_eq_true, decide_eq_true_eq]
      rw [show (((tr (p.take q)).length : Int) > 0) ↔ (tr (p.take q)).length > 0 by omega, hi]
      generalize PW q * (val (p.drop q) % 2 ^ s) = A at *
      generalize val (p.drop q) % 2 ^ s = C at *
      omega
    rw [e]
    exact key
  · rw [Nat.min_eq_right (by omega), w64 (x := (p.length : Int) - (p.length : Int)) (by omega) (by omega), show (p.length : Int) - (p.length : Int) = ((0 : Nat) : Int) by omega, Int.toNat_natCast, Int.toNat_natCast, List.take_length]
    simp only [if_pos (show (0 : Int) ≤ (p.length : Int) by omega), if_pos (Int.le_refl (p.length : Int)), if_pos (show (0 : Int) ≤ ((0 : Nat) : Int) by decide), if_pos (Nat.zero_le 70368744177664), Option.bind_some, List.replicate_zero, List.length_nil, if_pos (show ((0 : Nat) : Int) = 0 from rfl)]
    refine (right_ev p (by omega)).bind ?_
    refine Ev.step (fun k => by rw [nat_Shr.j0]) ?_
    simp only [if_true]
    have hlt := val_lt lp
    have hle := PW_le (show p.length ≤ q by omega)
    have h2 := pow2_pos s
    have hbig : val p < 2 ^ (32 * q + s) := by
      rw [Int.pow_add, ← PW_two]
      have := Int.mul_le_mul_of_nonneg_left (show (1 : Int) ≤ 2 ^ s by omega) (show 0 ≤ PW q by have := PW_pos q; omega)
      omega
    rw [Int.ediv_eq_zero_of_lt hv0 hbig, Int.emod_eq_of_lt hv0 hbig, can_zero]
    have hi := val_pos_iff lp
    have e : decide (((tr p).length : Int) > 0) = decide (val p ≠ 0) := by
      rw [Bool.eq_iff_iff]
      simp only [decide_eq_true_eq]
      rw [show (((tr p).length : Int) > 0) ↔ (tr p).length > 0 by omega, hi]
    rw [e]
    exact Ev.now _
theorem Shr_ev (a : List Int) (n : Int) (la : Lim a) (ha : a.length ≤ 100000) (hn : n ≤ 9223372036854775807) : Ev (fun k => nat_Shr.f k a n) (shrR (val a) n) := by
  unfold nat_Shr.f shrR
  by_cases c1 : n < 0
  · simp only [if_pos c1]; exact Ev.now _
  · rw [if_neg c1]
    refine Ev.congr (fun k => if_neg c1) ?_
    refine (over1_ev a (by omega) la).bind ?_
    cases hb : big (val a) with
    | true => simp only [if_true]; exact Ev.now _
    | false =>
      rw [if_neg (by decide)]
      refine Ev.congr (fun k => if_neg (by decide)) ?_
      have hl : (tr a).length ≤ 256 := by have := not_big_len hb; rw [can_of la] at this; exact this
      refine cut_ev _ a (by omega) ?_
      have := Shr_tail (tr a) (tr_Lim la) (by omega) n (by omega) hn
      rw [tr_val] at this
      exact this
end Go.Proofs.YtfcenlhaepckoaaDoor.P
set_option linter.unusedSimpArgs false
set_option linter.unusedVariables false
namespace Go.Proofs.YtfcenlhaepckoaaDoor.P
set_option linter.all false
open Go.RowKit Go.Proofs.YtfcenlhaepckoaaDoorW.PrintWords Go.Proofs.YtfcenlhaepckoaaDoorW.PrintLast Go.Proofs.YtfcenlhaepckoaaDoorW.PrintMore
open Go.Proofs.YtfcenlhaepckoaaDoor.Q

theorem limD (l : List Int) (h : (l.all fun x => decide (0 ≤ x) && decide (x < 4294967296)) = true) : Lim l := by
  intro x hx
  have := List.all_eq_true.1 h x hx
  simpa using this

theorem sh_A10 : Ev (fun k => nat_Trim.f k ([5, 0, 0] : List Int)) ([5] : List Int) := evTo (Trim_ev _ (by decide)) (by decide)
theorem sh_A20 : Ev (fun k => tabardlaw1_same.f k ([5] : List Int) ([5] : List Int)) true := evTo (same_ev _ _ (by decide)) (by decide)
theorem cn0 : can 4294967296 = ([0, 1] : List Int) := can_is (limD _ (by decide)) (by decide) (by decide)
theorem sh_A30 : Ev (fun k => nat_Of.f k 4294967296) ([0, 1] : List Int) := evTo (Of_ev _ (by decide) (by decide)) cn0
theorem sh_A40 : Ev (fun k => tabardlaw1_same.f k ([0, 1] : List Int) ([0, 1] : List Int)) true := evTo (same_ev _ _ (by decide)) (by decide)
theorem cn1 : can 4294967297 = ([1, 1] : List Int) := can_is (limD _ (by decide)) (by decide) (by decide)
theorem sh_A50 : Ev (fun k => nat_Value.f k ([1, 1] : List Int)) (4294967297, true) := evTo (Value_ev _ (by decide) (limD _ (by decide))) (by rw [(show val ([1, 1] : List Int) = 4294967297 from by decide)]; unfold valueR; rw [cn1]; decide)
theorem cn2 : can 18446744073709551616 = ([0, 0, 1] : List Int) := can_is (limD _ (by decide)) (by decide) (by decide)
theorem sh_A60 : Ev (fun k => nat_Value.f k ([0, 0, 1] : List Int)) (0, false) := evTo (Value_ev _ (by decide) (limD _ (by decide))) (by rw [(show val ([0, 0, 1] : List Int) = 18446744073709551616 from by decide)]; unfold valueR; rw [cn2]; decide)
theorem bg0 : big 4294967295 = false := big_is (n := 1) (by decide) (by decide) (by decide)
theorem bg1 : big 1 = false := big_is (n := 1) (by decide) (by decide) (by decide)
theorem bg2 : big 4294967296 = false := big_is (n := 2) (by decide) (by decide) (by decide)
theorem sh_A70 : Ev (fun k => nat_Add.f k ([4294967295] : List Int) ([1] : List Int)) (([0, 1] : List Int), 0) := evTo (Add_ev _ _ (by decide) (by decide) (limD _ (by decide)) (limD _ (by decide))) (by rw [(show val ([4294967295] : List Int) = 4294967295 from by decide), (show val ([1] : List Int) = 1 from by decide)]; unfold addR; rw [bg0, bg1]; simp only [Bool.or_self, Bool.false_eq_true, if_false]; rw [show (4294967295 : Int) + 1 = 4294967296 by decide, fitR_fits bg2, cn0])
theorem cn3 : can 4294967295 = ([4294967295] : List Int) := can_is (limD _ (by decide)) (by decide) (by decide)
theorem sh_A80 : Ev (fun k => nat_Sub.f k ([0, 1] : List Int) ([1] : List Int)) (([4294967295] : List Int), 0) := evTo (Sub_ev _ _ (by decide) (by decide) (limD _ (by decide)) (limD _ (by decide))) (by rw [(show val ([0, 1] : List Int) = 4294967296 from by decide), (show val ([1] : List Int) = 1 from by decide)]; unfold subR; rw [bg2, bg1]; simp only [Bool.or_self, Bool.false_eq_true, if_false]; rw [if_neg (by decide), show (4294967296 : Int) - 1 = 4294967295 by decide, cn3])
theorem bg3 : big 2 = false := big_is (n := 1) (by decide) (by decide) (by decide)
theorem sh_A90 : Ev (fun k => nat_Sub.f k ([1] : List Int) ([2] : List Int)) (([] : List Int), 6) := evTo (Sub_ev _ _ (by decide) (by decide) (limD _ (by decide)) (limD _ (by decide))) (by rw [(show val ([1] : List Int) = 1 from by decide), (show val ([2] : List Int) = 2 from by decide)]; unfold subR; rw [bg1, bg3]; simp only [Bool.or_self, Bool.false_eq_true, if_false]; rw [if_pos (by decide)])
theorem bg4 : big 18446744073709551616 = false := big_is (n := 3) (by decide) (by decide) (by decide)
theorem sh_A100 : Ev (fun k => nat_Mul.f k ([0, 1] : List Int) ([0, 1] : List Int)) (([0, 0, 1] : List Int), 0) := evTo (Mul_ev _ _ (by decide) (by decide) (limD _ (by decide)) (limD _ (by decide))) (by rw [(show val ([0, 1] : List Int) = 4294967296 from by decide)]; unfold mulR; rw [bg2]; simp only [Bool.or_self, Bool.false_eq_true, if_false]; rw [show (4294967296 : Int) * 4294967296 = 18446744073709551616 by decide, fitR_fits bg4, cn2])
theorem bg5 : big 7 = false := big_is (n := 1) (by decide) (by decide) (by decide)
theorem cn4 : can 2 = ([2] : List Int) := can_is (limD _ (by decide)) (by decide) (by decide)
theorem cn5 : can 3 = ([3] : List Int) := can_is (limD _ (by decide)) (by decide) (by decide)
theorem cn6 : can 1 = ([1] : List Int) := can_is (limD _ (by decide)) (by decide) (by decide)
theorem sh_A110 : Ev (fun k => nat_DivMod.f k ([7] : List Int) ([2] : List Int)) (([3] : List Int), ([1] : List Int), 0) := evTo (DivMod_ev _ _ (by decide) (by decide) (limD _ (by decide)) (limD _ (by decide)) (fun h => absurd h (by rw [(show val ([2] : List Int) = 2 from by decide), cn4]; decide))) (by rw [(show val ([7] : List Int) = 7 from by decide), (show val ([2] : List Int) = 2 from by decide)]; unfold divR; rw [bg5, bg3]; simp only [Bool.or_self, Bool.false_eq_true, if_false]; rw [if_neg (by decide), show (7 : Int) / 2 = 3 by decide, show (7 : Int) % 2 = 1 by decide, cn5, cn6])
theorem bg6 : big 0 = false := big_is (n := 1) (by decide) (by decide) (by decide)
theorem cn7 : can 0 = ([] : List Int) := can_is (limD _ (by decide)) (by decide) (by decide)
theorem sh_A120 : Ev (fun k => nat_DivMod.f k ([1] : List Int) ([] : List Int)) (([] : List Int), ([] : List Int), 10) := evTo (DivMod_ev _ _ (by decide) (by decide) (limD _ (by decide)) (limD _ (by decide)) (fun h => absurd h (by rw [(show val ([] : List Int) = 0 from by decide), cn7]; decide))) (by rw [(show val ([1] : List Int) = 1 from by decide), (show val ([] : List Int) = 0 from by decide)]; unfold divR; rw [bg1, bg6]; simp only [Bool.or_self, Bool.false_eq_true, if_false]; simp only [if_true])
theorem sh_A130 : Ev (fun k => tabardlaw1_same.f k ([0, 1] : List Int) ([0, 1] : List Int)) true := evTo (same_ev _ _ (by decide)) (by decide)
theorem sh_A140 : Ev (fun k => tabardlaw1_same.f k ([4294967295] : List Int) ([4294967295] : List Int)) true := evTo (same_ev _ _ (by decide)) (by decide)
theorem sh_A150 : Ev (fun k => tabardlaw1_same.f k ([0, 0, 1] : List Int) ([0, 0, 1] : List Int)) true := evTo (same_ev _ _ (by decide)) (by decide)
theorem sh_A160 : Ev (fun k => tabardlaw1_same.f k ([3] : List Int) ([3] : List Int)) true := evTo (same_ev _ _ (by decide)) (by decide)
theorem sh_A170 : Ev (fun k => tabardlaw1_same.f k ([1] : List Int) ([1] : List Int)) true := evTo (same_ev _ _ (by decide)) (by decide)
theorem sh_A180 : Ev (fun k => nat_Len.f k ([0, 1] : List Int)) 33 := evTo (Len_ev _ (by decide) (limD _ (by decide))) (by rw [(show val ([0, 1] : List Int) = 4294967296 from by decide)]; unfold lenR; rw [cn0]; decide)
theorem cn8 : can 8589934592 = ([0, 2] : List Int) := can_is (limD _ (by decide)) (by decide) (by decide)
theorem sh_A190 : Ev (fun k => nat_Shl.f k ([1] : List Int) 33) (([0, 2] : List Int), 0) := evTo (Shl_ev _ _ (limD _ (by decide)) (by decide) (by decide)) (by rw [(show val ([1] : List Int) = 1 from by decide)]; unfold shlR; rw [if_neg (by decide), bg1]; simp only [Bool.false_eq_true, if_false]; rw [if_neg (by rw [cn6]; decide), if_neg (by unfold lenR; rw [cn6]; decide), show (1 : Int) * PW ((33 : Int).toNat / 32) * 2 ^ ((33 : Int).toNat % 32) = 8589934592 by decide, cn8])
theorem sh_A200 : Ev (fun k => nat_Shr.f k ([0, 1] : List Int) 33) (([] : List Int), true, 0) := evTo (Shr_ev _ _ (limD _ (by decide)) (by decide) (by decide)) (by rw [(show val ([0, 1] : List Int) = 4294967296 from by decide)]; unfold shrR; rw [if_neg (by decide), bg2]; simp only [Bool.false_eq_true, if_false]; rw [show (4294967296 : Int) / 2 ^ (33 : Int).toNat = 0 by decide, cn7]; decide)
theorem sh_A210 : Ev (fun k => nat_Shl.f k ([1] : List Int) 8192) (([] : List Int), 2) := evTo (Shl_ev _ _ (limD _ (by decide)) (by decide) (by decide)) (by rw [(show val ([1] : List Int) = 1 from by decide)]; unfold shlR; rw [if_neg (by decide), bg1]; simp only [Bool.false_eq_true, if_false]; rw [if_neg (by rw [cn6]; decide), if_pos (.inr (by unfold lenR; rw [cn6]; decide))])
theorem sh_A220 : Ev (fun k => nat_Shl.f k ([] : List Int) 8192) (([] : List Int), 0) := evTo (Shl_ev _ _ (limD _ (by decide)) (by decide) (by decide)) (by rw [(show val ([] : List Int) = 0 from by decide)]; unfold shlR; rw [if_neg (by decide), bg6]; simp only [Bool.false_eq_true, if_false]; rw [if_pos cn7])
theorem cn9 : can 10000000000 = ([1410065408, 2] : List Int) := can_is (limD _ (by decide)) (by decide) (by decide)
theorem bg7 : big 10000000000 = false := big_is (n := 2) (by decide) (by decide) (by decide)
theorem sh_A230 : Ev (fun k => nat_Pow.f k 10 10) (([1410065408, 2] : List Int), 0) := evTo (Pow_ev _ _ (by decide)) (by rw [powR_eq (by decide) (by decide) (by decide), show (10 : Int) ^ (10 : Int).toNat = 10000000000 by decide, fitR_fits bg7, cn9])
theorem sh_A240 : Ev (fun k => nat_Pow.f k 0 0) (([1] : List Int), 0) := evTo (Pow_ev _ _ (by decide)) (by decide)
theorem sh_A250 : Ev (fun k => nat_Pow.f k 2 8192) (([] : List Int), 2) := evTo (Pow_ev _ _ (by decide)) ((powR_eq (by decide) (by decide) (by decide)).trans (fitR_big ((big_iff (Int.le_of_lt (pow2_pos _))).2 (by rw [PW_two]; exact Int.le_refl _))))
theorem sh_A260 : Ev (fun k => tabardlaw1_same.f k ([0, 2] : List Int) ([0, 2] : List Int)) true := evTo (same_ev _ _ (by decide)) (by decide)
theorem sh_A270 : Ev (fun k => tabardlaw1_same.f k ([1410065408, 2] : List Int) ([1410065408, 2] : List Int)) true := evTo (same_ev _ _ (by decide)) (by decide)
theorem sh_A280 : Ev (fun k => tabardlaw1_same.f k ([1] : List Int) ([1] : List Int)) true := evTo (same_ev _ _ (by decide)) (by decide)
theorem cn10 : can 7 = ([7] : List Int) := can_is (limD _ (by decide)) (by decide) (by decide)
theorem sh_A290 : Ev (fun k => nat_Parse.f k (⟨#[48, 48, 55]⟩ : ByteArray)) (([7] : List Int), 0) := evTo (Parse_ev [48, 48, 55] (by decide)) (by unfold parseR; rw [if_neg (by decide), show ((natL [48, 48, 55] : Nat) : Int) = 7 by decide, fitR_fits bg5, cn10])
theorem sh_A300 : Ev (fun k => nat_Parse.f k (⟨#[45, 49]⟩ : ByteArray)) (([] : List Int), 3) := evTo (Parse_ev [45, 49] (by decide)) (by unfold parseR; rw [if_pos (by decide)])
theorem sh_A310 : Ev (fun k => tabardlaw1_same.f k ([7] : List Int) ([7] : List Int)) true := evTo (same_ev _ _ (by decide)) (by decide)
theorem sh_A370 : Ev (fun k => nat_Digits.f k ([0, 1] : List Int)) (⟨#[52, 50, 57, 52, 57, 54, 55, 50, 57, 54]⟩ : ByteArray) := evTo (Digits_ev _ (limD _ (by decide)) (by decide)) (by rw [(show val ([0, 1] : List Int) = 4294967296 from by decide)]; unfold digitsR; rw [show (4294967296 : Int).toNat = 4294967296 from rfl, ← ddF_eq 11 4294967296 (by decide) (by decide)]; decide)
theorem shown_true (w : World) (hT : Tabs w) : Calls Tryd.prog 7 #[] w fun e w' => e = .returned (.bool true) ∧ Below w.heap.size w w' := by
  obtain ⟨KA10, hA10⟩ := sh_A10
  obtain ⟨KA20, hA20⟩ := sh_A20
  obtain ⟨KA30, hA30⟩ := sh_A30
  obtain ⟨KA40, hA40⟩ := sh_A40
  obtain ⟨KA50, hA50⟩ := sh_A50
  obtain ⟨KA60, hA60⟩ := sh_A60
  obtain ⟨KA70, hA70⟩ := sh_A70
  obtain ⟨KA80, hA80⟩ := sh_A80
  obtain ⟨KA90, hA90⟩ := sh_A90
  obtain ⟨KA100, hA100⟩ := sh_A100
  obtain ⟨KA110, hA110⟩ := sh_A110
  obtain ⟨KA120, hA120⟩ := sh_A120
  obtain ⟨KA130, hA130⟩ := sh_A130
  obtain ⟨KA140, hA140⟩ := sh_A140
  obtain ⟨KA150, hA150⟩ := sh_A150
  obtain ⟨KA160, hA160⟩ := sh_A160
  obtain ⟨KA170, hA170⟩ := sh_A170
  obtain ⟨KA180, hA180⟩ := sh_A180
  obtain ⟨KA190, hA190⟩ := sh_A190
  obtain ⟨KA200, hA200⟩ := sh_A200
  obtain ⟨KA210, hA210⟩ := sh_A210
  obtain ⟨KA220, hA220⟩ := sh_A220
  obtain ⟨KA230, hA230⟩ := sh_A230
  obtain ⟨KA240, hA240⟩ := sh_A240
  obtain ⟨KA250, hA250⟩ := sh_A250
  obtain ⟨KA260, hA260⟩ := sh_A260
  obtain ⟨KA270, hA270⟩ := sh_A270
  obtain ⟨KA280, hA280⟩ := sh_A280
  obtain ⟨KA290, hA290⟩ := sh_A290
  obtain ⟨KA300, hA300⟩ := sh_A300
  obtain ⟨KA310, hA310⟩ := sh_A310
  obtain ⟨KA370, hA370⟩ := sh_A370
  exact S.tabardlaw1_shown.calls (KA10 + KA20 + KA30 + KA40 + KA50 + KA60 + KA70 + KA80 + KA90 + KA100 + KA110 + KA120 + KA130 + KA140 + KA150 + KA160 + KA170 + KA180 + KA190 + KA200 + KA210 + KA220 + KA230 + KA240 + KA250 + KA260 + KA270 + KA280 + KA290 + KA300 + KA310 + KA370) true w hT rfl ([5] : List Int) (hA10 _ (by omega)) (hA20 _ (by omega)) ([0, 1] : List Int) (hA30 _ (by omega)) (hA40 _ (by omega)) (hA50 _ (by omega)) (hA60 _ (by omega)) ([0, 1] : List Int) (hA70 _ (by omega)) ([4294967295] : List Int) (hA80 _ (by omega)) ([] : List Int) (hA90 _ (by omega)) ([0, 0, 1] : List Int) (hA100 _ (by omega)) ([3] : List Int) ([1] : List Int) (hA110 _ (by omega)) ([] : List Int) ([] : List Int) (hA120 _ (by omega)) (hA130 _ (by omega)) (hA140 _ (by omega)) (hA150 _ (by omega)) (hA160 _ (by omega)) (hA170 _ (by omega)) (hA180 _ (by omega)) ([0, 2] : List Int) (hA190 _ (by omega)) ([] : List Int) (hA200 _ (by omega)) ([] : List Int) (hA210 _ (by omega)) ([] : List Int) (hA220 _ (by omega)) ([1410065408, 2] : List Int) (hA230 _ (by omega)) ([1] : List Int) (hA240 _ (by omega)) ([] : List Int) (hA250 _ (by omega)) (hA260 _ (by omega)) (hA270 _ (by omega)) (hA280 _ (by omega)) ([7] : List Int) (hA290 _ (by omega)) ([] : List Int) (hA300 _ (by omega)) (hA310 _ (by omega)) rfl rfl rfl rfl rfl (hA370 _ (by omega))
def tabardlaw1_shown.f : Option Bool := some true
theorem tabardlaw1_shown.calls (r : Bool) (w : World) (hT : Tabs w) (h : tabardlaw1_shown.f = some r) : Calls Tryd.prog 7 #[] w fun e w' => e = .returned (.bool r) ∧ Below w.heap.size w w' := by
  obtain rfl := Option.some.inj h
  exact shown_true w hT
end Go.Proofs.YtfcenlhaepckoaaDoor.P
namespace Go.Proofs.YtfcenlhaepckoaaDoor.P
set_option linter.all false
open Go.RowKit
theorem wf_u32 {x : Int} (h : (Lit.int .u32 x).wf = true) : 0 ≤ x ∧ x < 4294967296 := by
  simp [Lit.wf, IntKind.min, IntKind.max, IntKind.signed, IntKind.bits] at h
  omega
theorem wf_Lim {l : List Int} (h : ∀ x ∈ l, (Lit.int .u32 x).wf = true) : Lim l := fun x hx => wf_u32 (h x hx)
end Go.Proofs.YtfcenlhaepckoaaDoor.P
namespace Go.Proofs.YtfcenlhaepckoaaDoor.P
set_option linter.all false
set_option linter.unusedSimpArgs false
open Go.RowKit Go.Proofs.YtfcenlhaepckoaaDoorW.PrintWords Go.Proofs.YtfcenlhaepckoaaDoorW.PrintLast Go.Proofs.YtfcenlhaepckoaaDoorW.PrintMore

theorem equal_self (z : Int) (hz : 0 ≤ z) (hl : (can z).length ≤ 100000) : Ev (fun k => tabardlaw1_equal.f k (can z) (can z)) true := by
  unfold tabardlaw1_equal.f
  refine Ev.congr (fun k => if_pos rfl) ?_
  refine (Cmp_ev (can z) (can z) (by omega) (by omega) (can_Lim z) (can_Lim z)).bind ?_
  have : cmpR (val (can z)) (val (can z)) = 0 := by unfold cmpR; rw [if_neg (by omega), if_neg (by omega)]
  rw [this]
  exact Ev.now _
theorem Add_fit {a b : List Int} (la : Lim a) (lb : Lim b) (ha : a.length ≤ 100000) (hb : b.length ≤ 100000) (h : val a + val b < PW 256) : Ev (fun k => nat_Add.f k a b) (can (val a + val b), (0 : Int)) := by
  have hA := val_nonneg la
  have hB := val_nonneg lb
  have := Add_ev a b ha hb la lb
  unfold addR at this
  rw [big_small hA (by omega), big_small hB (by omega), fitR_fits (big_small (by omega) h)] at this
  exact this
theorem Mul_fit {a b : List Int} (la : Lim a) (lb : Lim b) (ha : a.length ≤ 100000) (hb : b.length ≤ 100000) (h0 : val a < PW 256) (h1 : val b < PW 256) (h : val a * val b < PW 256) : Ev (fun k => nat_Mul.f k a b) (can (val a * val b), (0 : Int)) := by
  have hA := val_nonneg la
  have hB := val_nonneg lb
  have := Mul_ev a b ha hb la lb
  unfold mulR at this
  rw [big_small hA h0, big_small hB h1, fitR_fits (big_small (Int.mul_nonneg hA hB) h)] at this
  exact this
theorem Sub_fit {a b : List Int} (la : Lim a) (lb : Lim b) (ha : a.length ≤ 100000) (hb : b.length ≤ 100000) (h0 : val a < PW 256) (h : val b ≤ val a) : Ev (fun k => nat_Sub.f k a b) (can (val a - val b), (0 : Int)) := by
  have hA := val_nonneg la
  have hB := val_nonneg lb
  have := Sub_ev a b ha hb la lb
  unfold subR at this
  rw [big_small hA h0, big_small hB (by omega), if_neg (by decide), if_neg (mt cmpR_neg.1 (by omega))] at this
  exact this
theorem can_le {z : Int} (hz : 0 ≤ z) (h : z < PW 256) : (can z).length ≤ 100000 := by have := can_short hz h; omega
theorem PW_lt {m n : Nat} {x : Int} (h : x < PW m) (hm : m ≤ n) : x < PW n := by have := PW_le hm; omega
theorem add_lt_PW {x y : Int} {n : Nat} (hx : x < PW n) (hy : y < PW n) : x + y < PW (n + 1) := by
  rw [PW_succ]; have := PW_pos n; omega
end Go.Proofs.YtfcenlhaepckoaaDoor.P
