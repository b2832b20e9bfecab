import Derived.Test.YtneeeaafhjaooaaDoorProg
import Derived.Test.YtneeeaafhjaooaaDoorWWordsq1
import Derived.Test.YtneeeaafhjaooaaDoorWLastq1
import Derived.Test.YtneeeaafhjaooaaDoorWMoreq1
import Derived.Lib.SmallJoins
import Derived.Below
import Derived.Lib.AppendIntMem
import Derived.Lib.ConvBytes
import Derived.WalkKit
import Derived.LoopTactic
import Derived.Deep.DeepCutAuto
import Derived.Deep.CutBlock
import Derived.Deep.QuietTactic
import Derived.BigQuiet
import Derived.Lib.AtoiErrMem
import Derived.Lib.Hide
import Derived.Outline
import Derived.Laws.ResultCell
import Derived.Shelf.Lays
import Derived.Shelf.LaysM
import Derived.Shelf.Strings.SlTrimAscii
import Derived.Shelf.Strings.Repeat
import Derived.Shelf.Small.Strs
import Derived.Shelf.Small.Wraps
import Derived.Shelf.Strings.Prefix
import Derived.Shelf.Strconv.Itoa3
import Derived.Shelf.Strconv.Atoi
import Derived.OrdersHeld
import Derived.Deep.RegionHeld3
import Derived.Laws.BitsLemmas
import Derived.RowKit
import Derived.Deep.Draws
import Derived.Deep.AppendLies
import Derived.Maps.AppendAt
import Derived.OwnWalk
import Derived.Laws.BytesArg
import Derived.Laws.MakeOwn
import Derived.Laws.OwnMore
import Derived.Deep.OwnRows
import Derived.Tactics
import Derived.Laws.Slices
import Derived.KernelRfl
import Derived.RowKit3
import Derived.Deep.LoopGhost
import Derived.WideLaws
import Derived.Laws.Rows
import Derived.Lib.AppendStr
import Derived.ArgAppend
import Derived.Laws.IdiomCopy
namespace Go.Proofs.YtneeeaafhjaooaaDoor.P
set_option linter.all false
open Go.RowKit Go.Proofs.YtneeeaafhjaooaaDoorW.PrintWords Go.Proofs.YtneeeaafhjaooaaDoorW.PrintLast

/-- What is known of memory while the digits are kept in place: the parameter's box, the result's cell, the kept bytes. -/
structure KW (w wx : World) (neg : Bool) (s : ByteArray) (ex : Int) (l : List UInt8) : Prop where
  c0 : wx.cell? ⟨w.heap.size, 0, none⟩ = some (.bool neg)
  c1 : wx.cell? ⟨w.heap.size, 1, none⟩ = some (.string s)
  c2 : wx.cell? ⟨w.heap.size, 2, none⟩ = some (.int .i64 ex)
  res : wx.heap[w.heap.size + 1]? = some (.cells #[.bool false, .string ⟨#[]⟩, .int .i64 0] 23 (0, 0))
  at_ : ∀ j, j < l.length → wx.cell? ⟨w.heap.size + 1 + 1, j, none⟩ = some (.int .u8 (l.getD j 0).toNat)
  free : ∀ j, j < l.length → wx.frozen? ⟨w.heap.size + 1 + 1, j, none⟩ = false
  bel : Below w.heap.size w wx
  size : w.heap.size + 3 ≤ wx.heap.size

theorem KW.made (w : World) (neg : Bool) (s : ByteArray) (ex : Int) (n : Nat) (hn : n ≤ s.size) :
    KW w (Lib.bytesWorld ((w.alloc (.cells #[.bool neg, .string s, .int .i64 ex] 23)).alloc (.cells #[.bool false, .string ⟨#[]⟩, .int .i64 0] 23)) 5 (s.extract 0 n)) neg s ex (s.data.toList.take n) := by
  obtain ⟨W, hW⟩ : ∃ W, (w.alloc (.cells #[.bool neg, .string s, .int .i64 ex] 23)).alloc (.cells #[.bool false, .string ⟨#[]⟩, .int .i64 0] 23) = W := ⟨_, rfl⟩
  have hsz : W.heap.size = w.heap.size + 1 + 1 := by rw [← hW]; simp
  have hex : (s.extract 0 n).size = n := by rw [ByteArray.size_extract]; omega
  have hlist : (s.extract 0 n).data.toList = s.data.toList.take n := by simp [ByteArray.data_extract, Array.toList_extract, List.extract]
  have hlen : (s.data.toList.take n).length = n := by rw [← hlist, Array.length_toList]; exact hex
  rw [hW]
  refine ⟨?_, ?_, ?_, ?_, ?_, ?_, ?_, ?_⟩
  · rw [Lib.bytesWorld_old _ _ _ _ (by simp only [hsz]; omega), ← hW]; simp
  · rw [Lib.bytesWorld_old _ _ _ _ (by simp only [hsz]; omega), ← hW]; simp
  · rw [Lib.bytesWorld_old _ _ _ _ (by simp only [hsz]; omega), ← hW]; simp
  · rw [Lib.bytesWorld_at_old _ _ _ _ (by rw [hsz]; omega), ← hW]
    have h1 := heap_alloc_new (w.alloc (.cells #[.bool neg, .string s, .int .i64 ex] 23)) (.cells #[.bool false, .string ⟨#[]⟩, .int .i64 0] 23)
    have h2 : (w.alloc (.cells #[.bool neg, .string s, .int .i64 ex] 23)).heap.size = w.heap.size + 1 := by simp
    rw [h2] at h1
    exact h1
  · intro j hj
    rw [hlen] at hj
    rw [← hsz, Lib.bytesWorld_cell _ _ _ _ (by omega), hlist]
  · intro j hj
    rw [hlen] at hj
    rw [← hsz]
    simp only [World.frozen?, Lib.bytesWorld_at_new]
    have hb : n ≤ (Lib.bytesCells W 5 (s.extract 0 n)).size := by
      unfold Lib.bytesCells
      rw [Array.size_append, Array.size_map]
      show n ≤ (s.extract 0 n).size + _
      omega
    generalize (Lib.bytesCells W 5 (s.extract 0 n)).size = z at hb
    simp
    omega
  · refine Below.trans (b := W) ?_ ((Lib.bytesWorld_below W _ _).mono (by omega))
    rw [← hW]
    exact ((Below.refl _ w).alloc (Nat.le_refl _) _).alloc (by simp) _
  · rw [Lib.bytesWorld_size, hsz]; omega

/-- What is taken away, held against half a unit. -/
def halfL : List UInt8 → Int
  | [] => 0
  | [b] => if b.toNat = 53 then 0 else if 53 < b.toNat then 1 else -1
  | b :: _ :: _ => if 53 ≤ b.toNat then 1 else -1
def oddL (l : List UInt8) (n : Nat) : Bool := decide (0 < n) && (((l.getD (n - 1) 0).toNat : Int) % 2 == 1)
def upB (way half : Int) (odd neg : Bool) : Bool :=
  if way = 0 then decide (0 < half) || (decide (half = 0) && odd)
  else if way = 1 then decide (0 ≤ half)
  else if way = 3 then true
  else if way = 4 then neg
  else if way = 5 then !neg else false
def bumpL (l : List UInt8) : List UInt8 :=
  match l.reverse.dropWhile (· == 57) with
  | [] => 49 :: List.replicate l.length 48
  | b :: t => t.reverse ++ (b + 1) :: List.replicate (l.length - 1 - t.length) 48
def refKept (neg : Bool) (l : List UInt8) (n : Nat) (way : Int) : List UInt8 :=
  if (!(l.drop n).isEmpty && upB way (halfL (l.drop n)) (oddL l n) neg) = true then bumpL (l.take n) else l.take n

theorem drop_list (s : ByteArray) (n : Nat) : (s.extract n s.size).data.toList = s.data.toList.drop n := by
  rw [ByteArray.data_extract, Array.toList_extract, List.extract_eq_take_drop]
  exact List.take_of_length_le (by rw [List.length_drop, Array.length_toList]; exact Nat.le_refl _)

theorem half_lt (b : UInt8) (R : List UInt8) (h : b.toNat < 53) : halfL (b :: R) = -1 := by
  cases R with
  | nil => simp only [halfL]; rw [if_neg (by omega), if_neg (by omega)]
  | cons c R => simp only [halfL]; rw [if_neg (by omega)]
theorem half_gt (b : UInt8) (R : List UInt8) (h : 53 < b.toNat) : halfL (b :: R) = 1 := by
  cases R with
  | nil => simp only [halfL]; rw [if_neg (by omega), if_pos (by omega)]
  | cons c R => simp only [halfL]; rw [if_pos (by omega)]
theorem half_eq (b c : UInt8) (R : List UInt8) (h : b.toNat = 53) : halfL (b :: c :: R) = 1 := by
  simp only [halfL]; rw [if_pos (by omega)]
theorem half_one (b : UInt8) (h : b.toNat = 53) : halfL [b] = 0 := by
  simp only [halfL]; rw [if_pos h]

theorem up0a (hf : Int) (od neg : Bool) (h : hf = 0) : upB 0 hf od neg = od := by simp [upB, h]
theorem up0b (hf : Int) (od neg : Bool) (h : hf ≤ 0) (h2 : ¬ hf = 0) : upB 0 hf od neg = false := by simp [upB, h2]; omega
theorem up0c (hf : Int) (od neg : Bool) (h : 0 < hf) : upB 0 hf od neg = true := by simp [upB, h]
theorem up1 (hf : Int) (od neg : Bool) : upB 1 hf od neg = decide (0 ≤ hf) := by simp [upB]
theorem up3 (hf : Int) (od neg : Bool) : upB 3 hf od neg = true := by simp [upB]
theorem up4 (hf : Int) (od neg : Bool) : upB 4 hf od neg = neg := by simp [upB]
theorem up5 (hf : Int) (od neg : Bool) : upB 5 hf od neg = !neg := by simp [upB]
theorem upE (way hf : Int) (od neg : Bool) (h0 : ¬ way = 0) (h1 : ¬ way = 1) (h3 : ¬ way = 3) (h4 : ¬ way = 4) (h5 : ¬ way = 5) : upB way hf od neg = false := by simp [upB, h0, h1, h3, h4, h5]

theorem bump_all (c : Nat) : bumpL (List.replicate c 57) = 49 :: List.replicate c 48 := by
  have h : (List.replicate c (57 : UInt8)).dropWhile (· == 57) = [] := by
    induction c with
    | zero => rfl
    | succ c ih => simp [List.replicate_succ, ih]
  simp [bumpL, h]
theorem bump_at (A : List UInt8) (x : UInt8) (c : Nat) (hx : x ≠ 57) : bumpL (A ++ x :: List.replicate c 57) = A ++ (x + 1) :: List.replicate c 48 := by
  have h : ∀ T : List UInt8, (List.replicate c (57 : UInt8) ++ x :: T).dropWhile (· == 57) = x :: T := by
    intro T
    induction c with
    | zero => simp [hx]
    | succ c ih => simp only [List.replicate_succ, List.cons_append, List.dropWhile_cons]; simpa using ih
  simp only [bumpL, List.reverse_append, List.reverse_cons, List.reverse_replicate, List.append_assoc, List.singleton_append, h]
  simp

/-- What is known once the digits are kept: how they read, beside the box and the result's cell. -/
structure KR (w wx : World) (neg : Bool) (v : Value) (r : List UInt8) : Prop where
  c0 : wx.cell? ⟨w.heap.size, 0, none⟩ = some (.bool neg)
  res : wx.heap[w.heap.size + 1]? = some (.cells #[.bool false, .string ⟨#[]⟩, .int .i64 0] 23 (0, 0))
  bel : Below w.heap.size w wx
  size : w.heap.size + 3 ≤ wx.heap.size
  cv : (convert 47 9 v).run Tryd.prog wx = .ok (.string ⟨r.toArray⟩) wx

theorem strOfNums_bytes (l : List UInt8) : strOfNums (l.map fun b => (b.toNat : Int)) = ⟨l.toArray⟩ := by
  simp [strOfNums, List.map_map, Function.comp_def]

theorem KW.reads {w wx : World} {neg : Bool} {s : ByteArray} {ex : Int} {l : List UInt8} (h : KW w wx neg s ex l) (n cap : Nat) (hn : l.length = n) :
    KR w wx neg (.slice (some ⟨w.heap.size + 1 + 1, 0, none⟩) n cap) l := by
  refine ⟨h.c0, h.res, h.bel, h.size, ?_⟩
  have := run_convert_bytes_arg (P := Tryd.prog) wx 47 5 Tryd.underlying47 Tryd.underlying5 (w.heap.size + 1 + 1) 0 n cap (l.map fun b => (b.toNat : Int)) (by simpa using hn) (fun i hi => by
    rw [Nat.zero_add, h.at_ i (by omega)]
    simp [List.getD, List.getElem?_eq_getElem (show i < l.length by omega)]) 9 Tryd.underlying9
  rw [strOfNums_bytes] at this
  exact this

theorem KW.store {w wx : World} {neg : Bool} {s : ByteArray} {ex : Int} {l : List UInt8} (h : KW w wx neg s ex l) (j : Nat) (hj : j < l.length) (x : UInt8) :
    KW w (wx.setCell ⟨w.heap.size + 1 + 1, j, none⟩ (.int .u8 x.toNat)) neg s ex (l.set j x) := by
  have hlen : (l.set j x).length = l.length := List.length_set
  refine ⟨?_, ?_, ?_, ?_, ?_, ?_, ?_, ?_⟩
  · rw [World.cell?_setCell_far _ _ _ _ (by simp; omega)]; exact h.c0
  · rw [World.cell?_setCell_far _ _ _ _ (by simp; omega)]; exact h.c1
  · rw [World.cell?_setCell_far _ _ _ _ (by simp; omega)]; exact h.c2
  · rw [Below.heap_setCell _ _ _ _ (by simp)]; exact h.res
  · intro i hi
    rw [hlen] at hi
    by_cases e : i = j
    · subst e
      rw [World.cell?_setCell_same wx _ _ (h.at_ i hi)]
      simp [List.getD, hi]
    · rw [World.cell?_setCell_other wx _ _ _ (by intro q; injection q with _ q2 _; exact e q2.symm), h.at_ i hi]
      simp [List.getD, List.getElem?_set_ne (fun q => e q.symm)]
  · intro i hi
    rw [hlen] at hi
    have := h.free i hi
    simpa using this
  · exact h.bel.setCell (by simp; omega) _
  · have := h.size; simpa using this

theorem refcut_info : (Tryd.prog.info? 5).map (fun i => (i.zero, i.size, i.bytes)) = some (some (.int .u8 0), 1, 1) := by kernel_rfl
theorem refcut_lit (w : World) : (w.alloc (.cells #[.int .u8 49] 5)).ownsRow w.heap.size 5 1 (.slice (some ⟨w.heap.size, 0, none⟩) 1 1) 1 [.int .u8 49] :=
  ⟨rfl, .inr ⟨w.heap.size, 1, _, rfl, Nat.le_refl _, heap_alloc_new w _, Nat.le_refl _, by decide, rfl, rfl⟩⟩
theorem refcut_src {w wr : World} {neg : Bool} {s : ByteArray} {ex : Int} {c : Nat} (h : KW w wr neg s ex (List.replicate c 48)) (j : Nat) (u : Value)
    (hj : ((List.replicate c (48 : UInt8)).map fun b => Value.int .u8 b.toNat)[j]? = some u) :
    (wr.alloc (.cells #[.int .u8 49] 5)).cell? ((⟨w.heap.size + 1 + 1, 0, none⟩ : Addr).add j) = some u := by
  have hjc : j < c := by
    rcases Nat.lt_or_ge j c with q | q
    · exact q
    · rw [List.getElem?_eq_none (by simpa using q)] at hj; cases hj
  have h1 := h.at_ j (by simpa using hjc)
  have h2 : (⟨w.heap.size + 1 + 1, 0, none⟩ : Addr).add j = ⟨w.heap.size + 1 + 1, j, none⟩ := by unfold Addr.add; split <;> simp_all
  rw [h2, World.cell?_alloc_old _ _ _ (by have := h.size; simp; omega), h1]
  simp [hjc] at hj
  simp [List.getD, hjc, ← hj]

theorem refcut_grown {w wr w1 : World} {neg : Bool} {s : ByteArray} {ex : Int} {c : Nat} {v' : Value} (h : KW w wr neg s ex (List.replicate c 48))
    (hown : w1.ownsRow wr.heap.size 5 1 v' (1 + c) ([.int .u8 49] ++ (List.replicate c (48 : UInt8)).map fun b => .int .u8 b.toNat))
    (hg : (wr.alloc (.cells #[.int .u8 49] 5)).grownBy w1 (Value.slice (some ⟨wr.heap.size, 0, none⟩) 1 1).ownBlock) : KR w w1 neg v' (49 :: List.replicate c 48) := by
  have hs := h.size
  have hb : Below wr.heap.size wr w1 := ((Below.refl _ wr).alloc (Nat.le_refl _) _).grown hg (by simp) (fun k hk => by simp [Value.ownBlock] at hk; omega)
  refine ⟨?_, ?_, ?_, ?_, ?_⟩
  · rw [hb.cell (by show w.heap.size < _; omega)]; exact h.c0
  · rw [hb.block _ (by omega)]; exact h.res
  · exact h.bel.trans (hb.mono (by omega))
  · have := hb.size; omega
  · obtain ⟨hl, h0 | ⟨g, cap, cur, rfl, hbg, hh, hn, hm, hsz, htk⟩⟩ := hown
    · omega
    · have := run_convert_bytes_arg (P := Tryd.prog) w1 47 5 Tryd.underlying47 Tryd.underlying5 g 0 (1 + c) cap ((49 :: List.replicate c (48 : UInt8)).map fun b => (b.toNat : Int)) (by simp; omega) (fun i hi => by
        rw [Nat.zero_add, blk_cell hh i]
        have h1 : (cur.toList.take ((1 + c) * 1))[i]? = cur[i]? := by rw [List.getElem?_take, if_pos (by omega), Array.getElem?_toList]
        rw [← h1, htk]
        have h2 : ([Value.int .u8 49] ++ (List.replicate c (48 : UInt8)).map fun b => Value.int .u8 b.toNat) = (49 :: List.replicate c (48 : UInt8)).map fun b => Value.int .u8 b.toNat := rfl
        have hlen : i < (49 :: List.replicate c (48 : UInt8)).length := by simp; omega
        rw [h2, List.getElem?_map, List.getElem?_eq_getElem hlen, List.getD, List.getElem?_map, List.getElem?_eq_getElem hlen]
        rfl) 9 Tryd.underlying9
      rw [strOfNums_bytes] at this
      exact this

set_option maxHeartbeats 4000000 in
set_option maxRecDepth 1000000 in
theorem refcut_any (neg : Bool) (s : ByteArray) (ex : Int) (n : Nat) (way : Int) (hn : n ≤ s.size) (hs : s.size ≤ 140737488351232) (r1 : Bool) (r2 : ByteArray) (r3 r4 : Int) (w : World)
    (hM : ∀ W, Calls Tryd.prog 31 #[.bool neg, .string ⟨(refKept neg s.data.toList n way).toArray⟩, .int .i64 (wrap64 (wrap64 (ex + s.size) - n))] W fun e W' => e = .returned (.tuple #[.agg #[.bool r1, .string r2, .int .i64 r3], .int .i64 r4]) ∧ Below W.heap.size W W') :
    Calls Tryd.prog 23 #[.agg #[.bool neg, .string s, .int .i64 ex], .int .i64 n, .int .i64 way] w fun e w' => e = .returned (.tuple #[.agg #[.bool r1, .string r2, .int .i64 r3], .int .i64 r4]) ∧ Below w.heap.size w w' := by
  have HM := Lib.hid hM
  clear hM
  have hcv := fun (W : World) (t : ByteArray) => Lib.run_convert_string_bytes (P := Tryd.prog) W 9 47 5 t Tryd.underlying9 Tryd.underlying47 Tryd.underlying5
  obtain ⟨rs, hrs⟩ : ∃ rs, s.extract n s.size = rs := ⟨_, rfl⟩
  obtain ⟨R, hR⟩ : ∃ R, s.data.toList.drop n = R := ⟨_, rfl⟩
  have hrR : rs.data.toList = R := by rw [← hrs, ← hR]; exact drop_list s n
  have HRS := Lib.hid hrs
  have HR := Lib.hid hR
  clear hrs hR
  go_enter Tryd.func23, Tryd.ntmps23
  go_upto_region 2 with fail
  go_cut [8, 9] (fun s8 s9 wx => s8 = .int .i64 (wrap64 (wrap64 (ex + s.size) - n)) ∧ ∃ cap, s9 = .slice (some ⟨w.heap.size + 1 + 1, 0, none⟩) n cap ∧ KW w wx neg s ex (s.data.toList.take n))
  case first =>
    go_wp2_with fail
    go_meet
    exact ⟨rfl, _, rfl, KW.made w neg s ex n hn⟩
  case rest =>
    obtain ⟨rfl, cap, rfl, hk⟩ := hcut
    have e0 := hk.c0; have e1 := hk.c1; have e2 := hk.c2
    clear hcv
    go_upto_region 3 with fail
    go_cut [10] (fun s10 wx => s10 = .string rs ∧ KW w wx neg s ex (s.data.toList.take n))
    case first =>
      go_wp2_with fail
      go_meet
      exact ⟨by rw [← HRS.out], hk⟩
    case rest =>
      clear hk e0 e1 e2
      obtain ⟨rfl, hk⟩ := hcut
      go_upto_if 33 with fail
      go_cut [11] (fun s11 wx => s11 = .int .i64 (halfL R) ∧ KW w wx neg s ex (s.data.toList.take n))
      case first =>
        cases R with
        | nil =>
          have hem : (!rs.toList.isEmpty) = false := by rw [Lib.toList_data, hrR]; rfl
          have hem2 : rs.toList = [] := by rw [Lib.toList_data]; exact hrR
          have hem3 : (rs.toList == []) = true := by rw [hem2]; rfl
          rw [hem]
          go_wp2_with fail
          go_meet
          exact ⟨rfl, hk⟩
        | cons b R' =>
          have hem : rs.toList.isEmpty = false := by rw [Lib.toList_data, hrR]; rfl
          have hem2 : (!rs.toList.isEmpty) = true := by rw [hem]; rfl
          rw [hem2]
          have hsz : rs.size = R'.length + 1 := by rw [Lib.size_eq, hrR]; rfl
          have hb : ∀ h : 0 < rs.size, rs[0]'h = b := by
            intro h
            have h2 : rs.data.toList[0]? = some b := by rw [hrR]; rfl
            rw [Array.getElem?_toList, Array.getElem?_eq_getElem h] at h2
            exact Option.some.inj h2
          rcases Nat.lt_trichotomy b.toNat 53 with h | h | h
          · have hq : (rs.toList == [53]) = false := by
              rw [Lib.toList_data, hrR, beq_eq_false_iff_ne]; intro e; injection e with e1 _; rw [e1] at h; exact absurd h (by decide)
            have HH := Lib.hid (half_lt b R' h)
            clear hrR
            go_wp2_with fail
            go_meet
            exact ⟨by rw [HH.out], hk⟩
          · cases R' with
            | nil =>
              have hq : (rs.toList == [53]) = true := by
                rw [Lib.toList_data, hrR, beq_iff_eq]; exact congrArg (· :: []) (UInt8.toNat_inj.1 h)
              have HH := Lib.hid (half_one b h)
              have h1 : b.toNat ≤ 53 := by omega
              have h2 : 53 ≤ b.toNat := by omega
              clear hrR h
              go_wp2_with fail
              go_meet
              exact ⟨by rw [HH.out], hk⟩
            | cons c R' =>
              have hq : (rs.toList == [53]) = false := by
                rw [Lib.toList_data, hrR, beq_eq_false_iff_ne]; intro e; injection e with _ e2; cases e2
              have HH := Lib.hid (half_eq b c R' h)
              have h1 : b.toNat ≤ 53 := by omega
              have h2 : 53 ≤ b.toNat := by omega
              have h3 : 1 < rs.size := by rw [hsz]; simp
              clear hrR h hsz
              go_wp2_with fail
              go_meet
              exact ⟨by rw [HH.out], hk⟩
          · have hq : (rs.toList == [53]) = false := by
              rw [Lib.toList_data, hrR, beq_eq_false_iff_ne]; intro e; injection e with e1 _; rw [e1] at h; exact absurd h (by decide)
            have HH := Lib.hid (half_gt b R' h)
            clear hrR
            go_wp2_with fail
            go_meet
            exact ⟨by rw [HH.out], hk⟩
      case rest =>
        clear hk
        obtain ⟨rfl, hk⟩ := hcut
        go_upto_region 11 with fail
        go_cut [12] (fun s12 wx => s12 = .bool (oddL s.data.toList n) ∧ KW w wx neg s ex (s.data.toList.take n))
        case first =>
          cases n with
          | zero =>
            have HO := Lib.hid (show oddL s.data.toList 0 = false from rfl)
            go_wp2_with fail
            go_meet
            exact ⟨by rw [HO.out], hk⟩
          | succ m =>
            have hlen : (s.data.toList.take (m + 1)).length = m + 1 := by rw [List.length_take, Array.length_toList]; exact Nat.min_eq_left hn
            have hc := hk.at_ m (by omega)
            have hg : (s.data.toList.take (m + 1)).getD m 0 = s.data.toList.getD m 0 := by simp [List.getD]
            rw [hg] at hc
            have HO := Lib.hid (show oddL s.data.toList (m + 1) = (((s.data.toList.getD m 0).toNat : Int) % 2 == 1) by simp only [oddL, Nat.add_sub_cancel, Nat.succ_pos, decide_true, Bool.true_and])
            generalize s.data.toList.getD m 0 = x at hc HO
            clear hg hlen
            go_wp2_with fail
            go_meet
            exact ⟨by rw [HO.out], hk⟩
        case rest =>
          clear hk
          obtain ⟨rfl, hk⟩ := hcut
          obtain ⟨hf, hhf⟩ : ∃ x, halfL R = x := ⟨_, rfl⟩
          obtain ⟨od, hod⟩ : ∃ x, oddL s.data.toList n = x := ⟨_, rfl⟩
          rw [hhf, hod]
          have HHF := Lib.hid hhf
          have HOD := Lib.hid hod
          clear hhf hod
          go_upto_block 0 with fail
          go_cut [13] (fun s13 wx => s13 = .bool (upB way hf od neg) ∧ KW w wx neg s ex (s.data.toList.take n))
          case first =>
            have e0 := hk.c0
            by_cases h0 : way = 0
            · subst h0
              rcases Int.lt_trichotomy hf 0 with q | q | q
              · have HU := Lib.hid (up0b hf od neg (by omega) (by omega))
                have q1 : decide (0 < hf) = false := decide_eq_false (by omega)
                have q2 : (hf == 0) = false := beq_eq_false_iff_ne.2 (by omega)
                clear q
                go_wp2_with fail
                go_meet
                exact ⟨by rw [HU.out], hk⟩
              · have HU := Lib.hid (up0a hf od neg q)
                have q1 : decide (0 < hf) = false := decide_eq_false (by omega)
                have q2 : (hf == 0) = true := beq_iff_eq.2 q
                clear q
                go_wp2_with fail
                go_meet
                exact ⟨by rw [HU.out], hk⟩
              · have HU := Lib.hid (up0c hf od neg q)
                have q1 : decide (0 < hf) = true := decide_eq_true q
                clear q
                go_wp2_with fail
                go_meet
                exact ⟨by rw [HU.out], hk⟩
            · by_cases h1 : way = 1
              · subst h1
                go_wp2_with fail
                go_meet
                exact ⟨by rw [up1], hk⟩
              · by_cases h3 : way = 3
                · subst h3
                  go_wp2_with fail
                  go_meet
                  exact ⟨by rw [up3], hk⟩
                · by_cases h4 : way = 4
                  · subst h4
                    go_wp2_with fail
                    go_meet
                    exact ⟨by rw [up4], hk⟩
                  · by_cases h5 : way = 5
                    · subst h5
                      go_wp2_with fail
                      go_meet
                      exact ⟨by rw [up5], hk⟩
                    · go_wp2_with fail
                      go_meet
                      exact ⟨by rw [upE way hf od neg h0 h1 h3 h4 h5], hk⟩
          case rest =>
            clear hk
            obtain ⟨rfl, hk⟩ := hcut
            obtain ⟨up, hup⟩ : ∃ x, upB way hf od neg = x := ⟨_, rfl⟩
            rw [hup]
            have HUP := Lib.hid hup
            clear hup
            go_upto_region 24 with fail
            go_cut [91] (fun s91 wx => s91 = .bool (!R.isEmpty && up) ∧ wx = wc)
            case first =>
              have hem : rs.toList.isEmpty = R.isEmpty := by rw [Lib.toList_data, hrR]
              cases up with
              | true =>
                go_wp2_with fail
                go_meet
                exact ⟨by first | rfl | simp | (rw [hem]; simp), rfl⟩
              | false =>
                go_wp2_with fail
                go_meet
                exact ⟨by simp, rfl⟩
            case rest =>
              obtain ⟨rfl, rfl⟩ := hcut
              go_upto_if 91 with fail
              go_cut [9] (fun s9 wx => KR w wx neg s9 (refKept neg s.data.toList n way))
              case first =>
                have hlt : (s.data.toList.take n).length = n := by rw [List.length_take, Array.length_toList]; exact Nat.min_eq_left hn
                by_cases hcnd : (!R.isEmpty && up) = true
                · have HKP := Lib.hid (show refKept neg s.data.toList n way = bumpL (s.data.toList.take n) by
                    unfold refKept; rw [HR.out, HHF.out, HOD.out, HUP.out, if_pos hcnd])
                  rw [hcnd]
                  clear hcnd HRS HR HHF HOD HUP hrR
                  obtain ⟨l, hl⟩ : ∃ l, s.data.toList.take n = l := ⟨_, rfl⟩
                  rw [hl] at hk hlt
                  have HL := Lib.hid hl
                  clear hl
                  go_wp2_with fail
                  go_loopw [14] (fun i wr => ∃ m c : Nat, m + c = n ∧ i = .int .i64 ((m : Int) - 1) ∧ KW w wr neg s ex (l.take m ++ List.replicate c 48) ∧ l.drop m = List.replicate c 57) (fun i _ => (intOf i + 1).toNat)
                  case atStart => exact ⟨n, 0, rfl, rfl, by rw [← hlt, List.take_length]; simpa using hk, by rw [← hlt, List.drop_length]; rfl⟩
                  case round =>
                    obtain ⟨m, c, hmc, rfl, hk, hd⟩ := hrel
                    cases m with
                    | zero =>
                      obtain rfl : c = n := by omega
                      rw [List.drop_zero] at hd
                      rw [List.take_zero, List.nil_append] at hk
                      rw [show (((0 : Nat) : Int) - 1) = -1 from rfl]
                      have HB := Lib.hid (show refKept neg s.data.toList c way = 49 :: List.replicate c 48 by rw [HKP.out, HL.out, hd, bump_all])
                      clear hd hlt
                      obtain ⟨i0, hi, hz0, hz1, hz2⟩ := info_parts refcut_info
                      have hown := refcut_lit wr
                      have hcell := refcut_src hk
                      have hwr := hk.size
                      go_wp2_with (at_builtin; refine wpList_append_own _ rfl (.tmp 110) (.tmp 111) 47 rfl wr.heap.size 5 i0 (.int .u8 0) 1 1 Tryd.underlying47 hi hz0 hz1 hz2 rfl (by decide) _ 1 [.int .u8 49] rfl hown ⟨w.heap.size + 1 + 1, 0, none⟩ c cap ((List.replicate c (48 : UInt8)).map fun b => .int .u8 b.toNat) rfl ?c1 hcell ?c2 ?c3 ?c4 ?c5 ?_)
                      case c1 => simp
                      case c2 =>
                        intro u hu
                        obtain ⟨b, _, rfl⟩ := List.mem_map.1 hu
                        rfl
                      case c3 => unfold maxLen; omega
                      case c4 => omega
                      case c5 => simp
                      intro v' w1 hown' hgrow _
                      have HKR := Lib.hid (refcut_grown (v' := v') hk (by simpa using hown') hgrow)
                      clear hown' hgrow hown hcell hk
                      go_wp2_with fail
                      go_meet
                      rw [HB.out]
                      exact HKR.out
                    | succ m =>
                      rw [show (((m + 1 : Nat) : Int) - 1) = (m : Int) by omega]
                      have hml : m < l.length := by omega
                      have hsp : l = l.take m ++ l[m] :: List.replicate c 57 := by
                        rw [← hd, ← List.drop_eq_getElem_cons hml, List.take_append_drop]
                      have hsp1 : l.take (m + 1) ++ List.replicate c 48 = l.take m ++ l[m] :: List.replicate c 48 := by
                        rw [List.take_succ_eq_append_getElem hml, List.append_assoc]; rfl
                      have hd1 : l[m] = 57 → l.drop m = List.replicate (c + 1) 57 := fun e => by
                        rw [List.drop_eq_getElem_cons hml, hd, e]; rfl
                      obtain ⟨x, hx⟩ : ∃ x, l[m] = x := ⟨_, rfl⟩
                      obtain ⟨A, hA⟩ : ∃ A, l.take m = A := ⟨_, rfl⟩
                      have hAl : A.length = m := by rw [← hA, List.length_take]; omega
                      rw [hx, hA] at hsp hsp1
                      rw [hx] at hd1
                      rw [hsp1] at hk
                      have hgx : (A ++ x :: List.replicate c 48).getD m 0 = x := by
                        rw [List.getD, List.getElem?_append_right (by omega), hAl, Nat.sub_self]; rfl
                      have hc := hk.at_ m (by simp; omega)
                      have hfz := hk.free m (by simp; omega)
                      rw [hgx] at hc
                      have hset : ∀ y : UInt8, (A ++ x :: List.replicate c 48).set m y = A ++ y :: List.replicate c 48 := fun y => by
                        rw [List.set_append_right _ _ (by omega), hAl, Nat.sub_self]; rfl
                      have hn1 : (m : Int) < n := by omega
                      by_cases h57 : x = 57
                      · have h57b : ((x.toNat : Int) == 57) = true := by rw [h57]; rfl
                        have hks := hk.store m (by simp; omega) 48
                        rw [hset, ← hA] at hks
                        have HKS := Lib.hid hks
                        have HD1 := Lib.hid (hd1 h57)
                        clear hks hd1 h57 hset hgx hsp hsp1 hx hA hAl hd hlt hml
                        go_wp2_with fail
                        go_roundw
                        case rel => exact ⟨m, c + 1, by omega, rfl, HKS.out, HD1.out⟩
                        case measure => first | (simp [intOf]; done) | (simp [intOf]; omega)
                      · have h57b : ((x.toNat : Int) == 57) = false := by
                          rw [beq_eq_false_iff_ne]; intro e; exact h57 (UInt8.toNat_inj.1 (show x.toNat = 57 by omega))
                        obtain ⟨y, hy⟩ : ∃ y, x + 1 = y := ⟨_, rfl⟩
                        have hks := hk.store m (by simp; omega) y
                        rw [hset] at hks
                        have HKS := Lib.hid hks
                        have HB := Lib.hid (show refKept neg s.data.toList n way = A ++ y :: List.replicate c 48 by rw [HKP.out, HL.out, hsp, bump_at A x c h57, hy])
                        have hKl := Lib.hid (show (A ++ y :: List.replicate c 48).length = n by simp; omega)
                        clear hks hd1 h57 hset hgx hsp hsp1 hx hA hAl hd hlt hml
                        have hx1 : (x.toNat + 1) % 256 = y.toNat := by rw [← hy, UInt8.toNat_add]; rfl
                        have hx2 : ((x.toNat : Int) + 1) % 256 = (y.toNat : Int) := by rw [← hx1]; omega
                        clear hx1 hy
                        go_wp2_with fail
                        go_meet
                        rw [HB.out]
                        exact HKS.out.reads n cap hKl.out
                · have HKP := Lib.hid (show refKept neg s.data.toList n way = s.data.toList.take n by
                    unfold refKept; rw [HR.out, HHF.out, HOD.out, HUP.out, if_neg hcnd])
                  rw [Bool.eq_false_iff.2 hcnd]
                  clear hcnd HRS HR HHF HOD HUP hrR
                  go_wp2_with fail
                  go_meet
                  rw [HKP.out]
                  exact hk.reads n cap hlt
              case rest =>
                clear hk
                obtain ⟨c0, res, bel, size, cv⟩ := hcut
                have hrest := HM.out wc
                go_wp2_with (go_at_call 31; refine hrest.mono ?_; rintro e W' ⟨rfl, hb⟩; have hr := blk_below res hb; have d0 : W'.cell? ⟨w.heap.size + 1, 0, none⟩ = some (.bool false) := blk_cell hr 0; have d1 : W'.cell? ⟨w.heap.size + 1, 1, none⟩ = some (.string ⟨#[]⟩) := blk_cell hr 1; have d2 : W'.cell? ⟨w.heap.size + 1, 2, none⟩ = some (.int .i64 0) := blk_cell hr 2; have f0 := blk_frozen hr 0; have f1 := blk_frozen hr 1; have f2 := blk_frozen hr 2)
                refine bodyPost_ret (results_ct rfl _ _ (w.heap.size + 1) 23 #[.bool r1, .string r2, .int .i64 r3] (0, 0) _ rfl (blk_put (blk_put (blk_put (blk_below res (by assumption)) 0 _ rfl) 1 _ rfl) 2 _ rfl) Tryd.underlying23 rfl (by kernel_rfl)) rfl ?_
                have hbb : Below w.heap.size w W' := bel.trans (Below.mono (by assumption) (by omega))
                exact ⟨rfl, ((hbb.setCell (by simp) _).setCell (by simp) _).setCell (by simp) _⟩
end Go.Proofs.YtneeeaafhjaooaaDoor.P
