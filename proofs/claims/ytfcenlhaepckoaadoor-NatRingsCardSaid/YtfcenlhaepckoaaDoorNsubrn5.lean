import Derived.Test.YtfcenlhaepckoaaDoorP0n5
import Derived.Test.YtfcenlhaepckoaaDoorProg
import Derived.Test.YtfcenlhaepckoaaDoorLibsn5
namespace Go.Proofs.YtfcenlhaepckoaaDoor.P
set_option linter.all false
open Go.RowKit Go.Proofs.YtfcenlhaepckoaaDoorW.PrintWords Go.Proofs.YtfcenlhaepckoaaDoorW.PrintLast Go.Proofs.YtfcenlhaepckoaaDoorW.PrintMore

def SubR (pre post : List Int) (w : World) (base : Nat) (ok : Nat → Prop) (v : Value) (xs : List Int) : Prop :=
  ∃ g c, v = .slice (some ⟨g, pre.length, none⟩) xs.length (c - pre.length) ∧ (pre ++ xs ++ post).length ≤ c ∧
    Kd.R (Kd.int .u32) 43 w base ok (.slice (some ⟨g, 0, none⟩) (pre ++ xs ++ post).length c) (pre ++ xs ++ post)
section
variable {pre post : List Int} {w w1 : World} {base : Nat} {ok ok' : Nat → Prop} {v : Value} {xs : List Int}
theorem SubR_mono (h : SubR pre post w base ok v xs) (hok : ∀ k, ok k → ok' k) : SubR pre post w base ok' v xs := by
  obtain ⟨g, c, h1, h2, h3⟩ := h
  exact ⟨g, c, h1, h2, Kd.R_mono h3 hok⟩
theorem SubR_alloc (h : SubR pre post w base ok v xs) (o : Obj) : SubR pre post (w.alloc o) base ok v xs := by
  obtain ⟨g, c, h1, h2, h3⟩ := h
  exact ⟨g, c, h1, h2, Kd.R_alloc h3 o⟩
theorem SubR_drew (h : SubR pre post w base ok v xs) : SubR pre post w.drew base ok v xs := by
  obtain ⟨g, c, h1, h2, h3⟩ := h
  exact ⟨g, c, h1, h2, Kd.R_drew h3⟩
theorem SubR_drewN (h : SubR pre post w base ok v xs) (m : Nat) : SubR pre post (w.drewN m) base ok v xs := by
  obtain ⟨g, c, h1, h2, h3⟩ := h
  exact ⟨g, c, h1, h2, Kd.R_drewN h3 m⟩
theorem SubR_slice (h : SubR pre post w base ok v xs) : ∃ A c, v = .slice A xs.length c := by
  obtain ⟨g, c, h1, _⟩ := h
  exact ⟨_, _, h1⟩
theorem SubR_form (h : SubR pre post w base ok v xs) (hp : 0 < xs.length) : ∃ g cap, v = .slice (some ⟨g, pre.length, none⟩) xs.length cap ∧ base ≤ g ∧ g < w.heap.size ∧ ∃ cells, w.heap[g]? = some (.cells cells 43 (0, 0)) := by
  obtain ⟨g, c, h1, h2, h3⟩ := h
  obtain ⟨g', cap', e, a1, a2, a3⟩ := Kd.R_form h3 (by simp; omega)
  injection e with e1 e2 e3
  injection e1 with e1
  injection e1 with e1
  subst e1
  exact ⟨g, _, h1, a1, a2, a3⟩
theorem SubR_ok {g lo n c : Nat} (h : SubR pre post w base ok (.slice (some ⟨g, lo, none⟩) n c) xs) : ok g := by
  obtain ⟨g', c', h1, h2, h3⟩ := h
  injection h1 with e1 e2 e3
  injection e1 with e1
  injection e1 with e1 e4
  subst e1
  exact h3.1 _ rfl
theorem SubR_okb {g lo n c : Nat} (h : SubR pre post w base ok (.slice (some ⟨g, lo, none⟩) n c) xs) (k : Nat) (e : some g = some k) : ok k := by
  injection e with e; rw [← e]; exact SubR_ok h
theorem SubR_celln {g lo n cap : Nat} (d : Int) (h : SubR pre post w base ok (.slice (some ⟨g, lo, none⟩) n cap) xs) (i : Int) (h0 : 0 ≤ i) (hi : i < n) :
    w.cell? ⟨g, lo + i.toNat, none⟩ = some (.int .u32 (rdOf d xs i)) ∧ w.frozen? ⟨g, lo + i.toNat, none⟩ = false := by
  obtain ⟨g', c', h1, h2, h3⟩ := h
  injection h1 with e1 e2 e3
  injection e1 with e1
  injection e1 with e1 e4
  subst e1; subst e4; subst e2
  have := Kd.R_celln d h3 ((pre.length : Int) + i) (by omega) (by simp; omega)
  rw [show ((pre.length : Int) + i).toNat = pre.length + i.toNat by omega] at this
  have e : rdOf d (pre ++ xs ++ post) ((pre.length : Int) + i) = rdOf d xs i := by
    unfold rdOf
    rw [show ((pre.length : Int) + i).toNat = pre.length + i.toNat by omega, List.append_assoc, List.getD, List.getD, List.getElem?_append_right (by omega), Nat.add_sub_cancel_left, List.getElem?_append_left (by omega)]
  rw [e] at this
  exact this
theorem SubR_putg {g lo n cap : Nat} (h : SubR pre post w base ok (.slice (some ⟨g, lo, none⟩) n cap) xs) (i : Int) (h0 : 0 ≤ i) (hi : i < xs.length) (x : Int) :
    SubR pre post (w.setCell ⟨g, lo + i.toNat, none⟩ (.int .u32 x)) base ok (.slice (some ⟨g, lo, none⟩) n cap) (xs.set i.toNat x) ∧ w.grownBy (w.setCell ⟨g, lo + i.toNat, none⟩ (.int .u32 x)) (some g) := by
  obtain ⟨g', c', h1, h2, h3⟩ := h
  injection h1 with e1 e2 e3
  injection e1 with e1
  injection e1 with e1 e4
  subst e1; subst e4; subst e2; subst e3
  have := Kd.R_putg h3 ((pre.length : Int) + i) x
  rw [show ((pre.length : Int) + i).toNat = pre.length + i.toNat by omega] at this
  have e : (pre ++ xs ++ post).set (pre.length + i.toNat) x = pre ++ xs.set i.toNat x ++ post := by
    rw [List.append_assoc, List.set_append_right _ _ (by omega), Nat.add_sub_cancel_left, List.set_append_left _ _ (by omega), List.append_assoc]
  rw [e] at this
  refine ⟨⟨g, c', by simp, by simpa using h2, ?_⟩, this.2⟩
  have hl : (pre ++ xs.set i.toNat x ++ post).length = (pre ++ xs ++ post).length := by simp
  rw [hl]
  exact this.1
theorem SubR_reads' {A : Option Addr} {n c : Nat} (h : SubR pre post w base ok (.slice A n c) xs) : n = xs.length ∧ n ≤ c ∧ Kd.C (Kd.int .u32) w A xs.length xs := by
  obtain ⟨g', c', h1, h2, h3⟩ := h
  injection h1 with e1 e2 e3
  subst e1; subst e2; subst e3
  have hlen : pre.length + xs.length + post.length = (pre ++ xs ++ post).length := by simp; omega
  refine ⟨rfl, by omega, ?_⟩
  have hC := (Kd.R_reads' h3).2.2
  have hm := Kd.C_mid (lo := pre.length) (hi := pre.length + xs.length) (c := c') hC (by omega) (by omega) h2
  have e : ((pre ++ xs ++ post).take (pre.length + xs.length)).drop pre.length = xs := by
    rw [List.append_assoc, List.take_append, List.take_of_length_le (by omega), Nat.add_sub_cancel_left, List.take_append, List.take_of_length_le (Nat.le_refl _), Nat.sub_self, List.take_zero, List.append_nil, List.drop_append, List.drop_of_length_le (Nat.le_refl _), Nat.sub_self, List.drop_zero, List.nil_append]
  rw [e] at hm
  by_cases hx : xs.length = 0
  · exact ⟨rfl, hm.2.1, fun hp => by omega⟩
  · rw [if_neg (by omega)] at hm
    have ea : (some (⟨g', 0, none⟩ : Addr)).map (·.add (pre.length * (Kd.int .u32).sz)) = some ⟨g', pre.length, none⟩ := by
      show some ((⟨g', 0, none⟩ : Addr).add (pre.length * 1)) = _
      simp [Addr.add]
      intro h_; rw [h_]; rfl
    rw [ea] at hm
    exact hm
theorem three_parts (X : List Int) {lo hi : Nat} (h1 : lo ≤ hi) : X.take lo ++ (X.take hi).drop lo ++ X.drop hi = X := by
  have : X.take lo = (X.take hi).take lo := by rw [List.take_take, Nat.min_eq_left h1]
  rw [this, List.take_append_drop, List.take_append_drop]
/-- A part of an own row, out of the whole; and back. -/
theorem SubR_of {g n c lo hi : Nat} {X : List Int} (h : Kd.R (Kd.int .u32) 43 w base ok (.slice (some ⟨g, 0, none⟩) n c) X) (h1 : lo ≤ hi) (h2 : hi ≤ X.length) :
    SubR (X.take lo) (X.drop hi) w base ok (.slice (some ⟨g, lo, none⟩) (hi - lo) (c - lo)) ((X.take hi).drop lo) := by
  have hr := Kd.R_reads' h
  have hl : (X.take lo).length = lo := by rw [List.length_take]; omega
  have hm : ((X.take hi).drop lo).length = hi - lo := by rw [List.length_drop, List.length_take]; omega
  refine ⟨g, c, by rw [hl, hm], by rw [three_parts X h1]; omega, ?_⟩
  rw [three_parts X h1, ← hr.1]
  exact h
theorem SubR_back {g lo m c : Nat} (h : SubR pre post w base ok (.slice (some ⟨g, lo, none⟩) m (c - lo)) xs) (hc : lo ≤ c) :
    Kd.R (Kd.int .u32) 43 w base ok (.slice (some ⟨g, 0, none⟩) (pre ++ xs ++ post).length c) (pre ++ xs ++ post) := by
  obtain ⟨g', c', h1, h2, h3⟩ := h
  injection h1 with e1 e2 e3
  injection e1 with e1
  injection e1 with e1 e4
  subst e1; subst e4
  have hl : pre.length ≤ (pre ++ xs ++ post).length := by rw [List.length_append, List.length_append]; omega
  have : c' = c := by omega
  subst this
  exact h3
theorem SubR_length {A : Option Addr} {n c : Nat} (h : SubR pre post w base ok (.slice A n c) xs) : n = xs.length := by
  obtain ⟨g', c', h1, h2, h3⟩ := h
  injection h1
end
end Go.Proofs.YtfcenlhaepckoaaDoor.P
