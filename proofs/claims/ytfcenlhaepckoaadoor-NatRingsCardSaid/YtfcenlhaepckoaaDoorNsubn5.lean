-- Printed by a program of this session (wip/tools/subrow.py) out of printed texts: not trusted, Lean checks it.
import Derived.Test.YtfcenlhaepckoaaDoorP4n5
import Derived.Test.YtfcenlhaepckoaaDoorP0n5
import Derived.Test.YtfcenlhaepckoaaDoorProg
import Derived.Test.YtfcenlhaepckoaaDoorElibn5
import Derived.Test.YtfcenlhaepckoaaDoorSqn5
import Derived.Test.YtfcenlhaepckoaaDoorNsubrn5
import Derived.Test.YtfcenlhaepckoaaDoorLibsn5
namespace Go.Proofs.YtfcenlhaepckoaaDoor.P
set_option linter.all false
open Go.RowKit Go.Proofs.YtfcenlhaepckoaaDoorW.PrintWords Go.Proofs.YtfcenlhaepckoaaDoorW.PrintLast Go.Proofs.YtfcenlhaepckoaaDoorW.PrintMore
attribute [local go_sem] max2_int min2_int max_two min_two max_three min_three max_four min_four   -- for this text's walks alone
attribute [local go_sem] cell_after
set_option linter.unusedVariables false
set_option linter.unusedSimpArgs false
set_option maxHeartbeats 8000000 in
set_option maxRecDepth 100000 in
theorem nat_shift_sub.calls (pre post : List Int) (k : Nat) (P0_ : Nat → Prop) (u9000_ : Value) (l0 : List Int) (A1 : Option Addr) (c1 : Nat) (l1 : List Int) (a2 : Int) (r : List Int) (w0 w : World) (hB : Below w0.heap.size w0 w) (ho0 : SubR pre post w w0.heap.size P0_ u9000_ l0) (hr1 : ∀ W_, Kept w W_ (fun k_ => P0_ k_) → Kd.C (Kd.int .u32) W_ A1 l1.length l1) (hc1 : l1.length ≤ c1) (h : nat_shift.f k l0 l1 a2 = some r) :
    Calls Tryd.prog 33 #[u9000_, .slice A1 l1.length c1, .int .i64 a2] w fun e w' => e = .returned (.tuple #[]) ∧ SubR pre post w' w0.heap.size (fun k_ => (P0_ k_ ∨ w.heap.size ≤ k_)) u9000_ r ∧ Below w0.heap.size w0 w' ∧ Kept w w' (fun k_ => P0_ k_) := by
  have HO0 := Aside0.mk (show SubR pre post w w0.heap.size (fun k_ => (P0_ k_ ∨ w.heap.size ≤ k_)) u9000_ l0 from SubR_mono ho0 (fun k_ hk => (.inl hk)))
  have HR1 := Aside0.mk hr1
  have HC1 := Aside0.mk hc1
  clear hr1 hc1
  have HK := Aside0.mk (Kept.refl w (fun k_ => P0_ k_))
  have HW0 := Aside0.mk hB.size
  have HB := Aside0.mk hB
  clear hB
  have H : (nat_shift.l0 k l0 l1 a2 0 (l0.length : Int) 0) = some r := h
  clear h
  have H' := Aside0.mk H
  clear H
  obtain ⟨Ao4, co4, eo4⟩ := SubR_slice HO0.out
  subst eo4
  go_enter Tryd.func33, Tryd.ntmps33
  go_wp2
  go_loopg [6, 10] k (fun kq v6 v10 w' => ∃ (x0_1 : List Int) (x6_1 : Int) (x10_1 : Int), v6 = .int .u64 x6_1 ∧ v10 = .int .i64 x10_1 ∧ Aside0 (nat_shift.l0 kq x0_1 l1 a2 x6_1 (l0.length : Int) x10_1 = some r) ∧ Aside0 (kq ≤ k) ∧ Aside0 (SubR pre post w' w0.heap.size (fun k_ => (P0_ k_ ∨ w.heap.size ≤ k_)) (.slice Ao4 l0.length co4) x0_1) ∧ Aside0 (Kept w w' (fun k_ => P0_ k_)) ∧ Aside0 (Below w0.heap.size w0 w'))
  case atStart => exact ⟨(l0), (0), (0), (by first | rfl | (simp; done) | (simp [*]; done)), (by first | rfl | (simp; done) | (simp [*]; done)), H', ⟨Nat.le_refl _⟩, ⟨by (with_reducible repeat (first | apply SubR_alloc | apply SubR_drewN | apply SubR_drew)); exact HO0.out⟩, ⟨by repeat (first | (with_reducible first | exact HK.out | apply Kept.alloc | apply Kept.drewN | apply Kept.drew) | exact HK.out)⟩, ⟨by repeat (first | (with_reducible first | exact HB.out | apply below_alloc | apply pw_below_drewN | apply below_drew1) | exact HB.out)⟩⟩
  case round =>
    clear H'
    try clear c1
    try clear p2
    try clear c3
    obtain ⟨x0_1, x6_1, x10_1, rfl, rfl, HA, HK1, HO_0, HK, HB⟩ := hrel
    have hl0_1 := (SubR_reads' HO_0.out).1
    rw [hl0_1] at HO_0
    (try simp only [hl0_1])
    cases gk with
    | zero => exact absurd HA.out (by simp [nat_shift.l0])
    | succ k1 =>
      have H := HA.out
      clear HA
      simp only [nat_shift.l0] at H
      by_cases c5 : x10_1 < (l0.length : Int)
      · rw [if_pos c5] at H
        have c5b0 : decide (x10_1 < (l0.length : Int)) = true := decide_eq_true c5
        have c5b0h := c5b0
        (try simp only [hl0_1] at c5b0h)
        clear c5
        by_cases c6 : x10_1 < (l1.length : Int)
        · rw [if_pos c6] at H
          have c6b0 : decide (x10_1 < (l1.length : Int)) = true := decide_eq_true c6
          have c6b0h := c6b0
          (try simp only [hl0_1] at c6b0h)
          clear c6
          by_cases c7 : 0 ≤ x10_1
          · rw [if_pos c7] at H
            have c7b0 : decide (0 ≤ x10_1) = true := decide_eq_true c7
            clear c7
            by_cases c8 : 0 ≤ a2
            · rw [if_pos c8] at H
              have c8b0 := eq_true c8
              have c8b1 : decide (0 ≤ a2) = true := decide_eq_true c8
              clear c8
              obtain ⟨ji9, hji9⟩ : ∃ j_ : Int, (shl .u64 (IntKind.u64.wrap (rd l1 x10_1)) a2) = j_ := ⟨_, rfl⟩
              replace H : (if x10_1 < (x0_1.length : Int) then (nat_shift.l0 k1 (x0_1.set (x10_1 : Int).toNat ((Go.bits .or .u64 x6_1 (ji9)) % 4294967296)) l1 a2 ((Go.bits .or .u64 x6_1 (ji9)) / 4294967296) (l0.length : Int) (wrap64 (x10_1 + 1))) else (none)) = some r := by first | (rw [hji9] at H; exact H) | (simp only [hji9] at H ⊢; exact H)
              have hji9_ : (IntKind.u64.wrap ((IntKind.u64.wrap (rd l1 x10_1)) * 2 ^ min a2.toNat 64)) = ji9 := hji9
              have hji9z : a2 ≤ 64 → (IntKind.u64.wrap ((IntKind.u64.wrap (rd l1 x10_1)) * 2 ^ a2.toNat)) = ji9 := shl_small hji9
              by_cases c10 : x10_1 < (x0_1.length : Int)
              · rw [if_pos c10] at H
                have c10b0 : decide (x10_1 < (x0_1.length : Int)) = true := decide_eq_true c10
                have c10b0h := c10b0
                (try simp only [hl0_1] at c10b0h)
                clear c10
                obtain ⟨y232, hy232⟩ : ∃ y_ : List Int, y_ = (x0_1.set (x10_1 : Int).toNat ((Go.bits .or .u64 x6_1 (ji9)) % 4294967296)) := ⟨_, rfl⟩
                replace H : (nat_shift.l0 k1 y232 l1 a2 ((Go.bits .or .u64 x6_1 (ji9)) / 4294967296) (l0.length : Int) (wrap64 (x10_1 + 1))) = some r := by first | (rw [hy232]; with_reducible exact H) | (have H2_ := (Option.bind_some _ _).symm.trans H; rw [hy232]; with_reducible exact H2_) | (have H2_ := (Option.bind_some _ _).symm.trans H; with_reducible exact H2_) | with_reducible exact H | (rw [hy232]; exact H) | exact H
                have Ny232 := Aside0.mk hy232
                clear hy232
                have H' := Aside0.mk H
                clear H
                have p231 : 0 ≤ (x10_1 : Int) := od_
                have q231 : x10_1 < (l1.length : Int) := od_
                obtain ⟨ad231, e231, hx231_0⟩ := Kd.at_int (Kd.C_kept_now HR1.out HK.out) x10_1 p231 q231
                cases e231
                replace p231 := eq_true p231
                replace q231 := eq_true q231
                have p11 : 0 ≤ (x10_1 : Int) := od_
                have q11 : (x10_1 : Int) < ((x0_1.length : Int) : Int) := od_
                obtain ⟨go11, co11, eo11, gb11, gl11, cl11, HG11⟩ := SubR_form HO_0.out (by omega)
                (first | cases eo11 | (injection eo11 with ea_ en_ ec_; (first | subst ea_ | (injection ea_ with ea_; subst ea_)); subst ec_; clear en_))
                have GB11 := Aside0.mk gb11
                have GG11 := Aside0.mk HG11
                clear gb11 gl11 HG11
                have HMgo11 := Aside0.mk (show (P0_ go11 ∨ w.heap.size ≤ go11) from (SubR_ok HO_0.out))
                obtain ⟨hx11_0, hf11_0⟩ := SubR_celln 0 HO_0.out (x10_1 : Int) p11 q11
                replace p11 := eq_true p11
                replace q11 := eq_true q11
                have HP12 := SubR_putg HO_0.out (x10_1 : Int) (of_eq_true p11) (of_eq_true q11) ((Go.bits .or .u64 x6_1 (ji9)) % 4294967296)
                go_wp2_with (first | ((with_reducible refine gate_store (t := 43) (p := 30) rfl ?_); refine store_event (t := 43) (p := 30) (v := ?vo_w13) (w1 := (wr.setCell ⟨go11, pre.length + (x10_1 : Int).toNat, none⟩ (.int .u32 ((Go.bits .or .u64 x6_1 (ji9)) % 4294967296)))) ?hg ?ho ?hn ?hr ?_; (case ho => rfl); (case hg => rfl); (case hn => rfl); (case hr => first | (go_simp; done) | (go_simp; rfl)); intro w13 hw; have hg : wr.grownBy w13 (some go11) := (by rw [hw]; exact HP12.2); have hp_ : SubR pre post w13 w0.heap.size (fun k_ => (P0_ k_ ∨ w.heap.size ≤ k_)) (.slice (some ⟨go11, pre.length, none⟩) x0_1.length co4) y232 := (by rw [hw, Ny232.out]; exact HP12.1); clear HP12; replace HB := Aside0.mk ((by rw [hw]; exact below_set (HB.out) GB11.out : Below w0.heap.size w0 w13)); replace HK := Aside0.mk (Kept.of_grown (S := (fun k_ => P0_ k_)) hg (by repeat (first | (with_reducible first | exact HK.out | apply Kept.alloc | apply Kept.drewN | apply Kept.drew) | exact HK.out)) (fun k_ e_ => (SubR_okb HO_0.out k_ e_))); replace HO_0 := Aside0.mk (hp_); clear hg hw hp_))
                (try simp only [← hl0_1])
                (first | go_roundg k1 | (simp only [← hji9]; go_roundg k1))
                case measure => have := HK1.out; omega
                case rel => exact ⟨(y232), ((Go.bits .or .u64 x6_1 (ji9)) / 4294967296), (wrap64 (x10_1 + 1)), (by first | rfl | (simp; done) | (simp only [← hji9] <;> (first | rfl | simp)) | (simp [*]; done)), (by first | rfl | (simp; done) | (simp [*]; done)), (by first | exact H' | (rw [hji9]; exact H')), ⟨by have := HK1.out; omega⟩, ⟨by (try simp only [hl0_1]); (with_reducible repeat (first | apply SubR_alloc | apply SubR_drewN | apply SubR_drew)); exact HO_0.out⟩, ⟨by repeat (first | (with_reducible first | exact HK.out | apply Kept.alloc | apply Kept.drewN | apply Kept.drew) | exact HK.out)⟩, ⟨by repeat (first | (with_reducible first | exact HB.out | apply below_alloc | apply pw_below_drewN | apply below_drew1) | exact HB.out)⟩⟩
              · rw [if_neg c10] at H
                exact absurd H (by simp)
            · rw [if_neg c8] at H
              exact absurd H (by simp)
          · rw [if_neg c7] at H
            exact absurd H (by simp)
        · rw [if_neg c6] at H
          have c6b0 : decide (x10_1 < (l1.length : Int)) = false := decide_eq_false c6
          have c6b0h := c6b0
          (try simp only [hl0_1] at c6b0h)
          clear c6
          by_cases c14 : 0 ≤ x10_1
          · rw [if_pos c14] at H
            have c14b0 : decide (0 ≤ x10_1) = true := decide_eq_true c14
            clear c14
            by_cases c15 : x10_1 < (x0_1.length : Int)
            · rw [if_pos c15] at H
              have c15b0 : decide (x10_1 < (x0_1.length : Int)) = true := decide_eq_true c15
              have c15b0h := c15b0
              (try simp only [hl0_1] at c15b0h)
              clear c15
              obtain ⟨y233, hy233⟩ : ∃ y_ : List Int, y_ = (x0_1.set (x10_1 : Int).toNat ((x6_1) % 4294967296)) := ⟨_, rfl⟩
              replace H : (nat_shift.l0 k1 y233 l1 a2 (x6_1 / 4294967296) (l0.length : Int) (wrap64 (x10_1 + 1))) = some r := by first | (rw [hy233]; with_reducible exact H) | (have H2_ := (Option.bind_some _ _).symm.trans H; rw [hy233]; with_reducible exact H2_) | (have H2_ := (Option.bind_some _ _).symm.trans H; with_reducible exact H2_) | with_reducible exact H | (rw [hy233]; exact H) | exact H
              have Ny233 := Aside0.mk hy233
              clear hy233
              have H' := Aside0.mk H
              clear H
              have p16 : 0 ≤ (x10_1 : Int) := od_
              have q16 : (x10_1 : Int) < ((x0_1.length : Int) : Int) := od_
              obtain ⟨go16, co16, eo16, gb16, gl16, cl16, HG16⟩ := SubR_form HO_0.out (by omega)
              (first | cases eo16 | (injection eo16 with ea_ en_ ec_; (first | subst ea_ | (injection ea_ with ea_; subst ea_)); subst ec_; clear en_))
              have GB16 := Aside0.mk gb16
              have GG16 := Aside0.mk HG16
              clear gb16 gl16 HG16
              have HMgo16 := Aside0.mk (show (P0_ go16 ∨ w.heap.size ≤ go16) from (SubR_ok HO_0.out))
              obtain ⟨hx16_0, hf16_0⟩ := SubR_celln 0 HO_0.out (x10_1 : Int) p16 q16
              replace p16 := eq_true p16
              replace q16 := eq_true q16
              have HP17 := SubR_putg HO_0.out (x10_1 : Int) (of_eq_true p16) (of_eq_true q16) ((x6_1) % 4294967296)
              go_wp2_with (first | ((with_reducible refine gate_store (t := 43) (p := 30) rfl ?_); refine store_event (t := 43) (p := 30) (v := ?vo_w18) (w1 := (wr.setCell ⟨go16, pre.length + (x10_1 : Int).toNat, none⟩ (.int .u32 ((x6_1) % 4294967296)))) ?hg ?ho ?hn ?hr ?_; (case ho => rfl); (case hg => rfl); (case hn => rfl); (case hr => first | (go_simp; done) | (go_simp; rfl)); intro w18 hw; have hg : wr.grownBy w18 (some go16) := (by rw [hw]; exact HP17.2); have hp_ : SubR pre post w18 w0.heap.size (fun k_ => (P0_ k_ ∨ w.heap.size ≤ k_)) (.slice (some ⟨go16, pre.length, none⟩) x0_1.length co4) y233 := (by rw [hw, Ny233.out]; exact HP17.1); clear HP17; replace HB := Aside0.mk ((by rw [hw]; exact below_set (HB.out) GB16.out : Below w0.heap.size w0 w18)); replace HK := Aside0.mk (Kept.of_grown (S := (fun k_ => P0_ k_)) hg (by repeat (first | (with_reducible first | exact HK.out | apply Kept.alloc | apply Kept.drewN | apply Kept.drew) | exact HK.out)) (fun k_ e_ => (SubR_okb HO_0.out k_ e_))); replace HO_0 := Aside0.mk (hp_); clear hg hw hp_))
              (try simp only [← hl0_1])
              go_roundg k1
              case measure => have := HK1.out; omega
              case rel => exact ⟨(y233), (x6_1 / 4294967296), (wrap64 (x10_1 + 1)), (by first | rfl | (simp; done) | (simp [*]; done)), (by first | rfl | (simp; done) | (simp [*]; done)), (by first | exact H' | (rw [hji9]; exact H')), ⟨by have := HK1.out; omega⟩, ⟨by (try simp only [hl0_1]); (with_reducible repeat (first | apply SubR_alloc | apply SubR_drewN | apply SubR_drew)); exact HO_0.out⟩, ⟨by repeat (first | (with_reducible first | exact HK.out | apply Kept.alloc | apply Kept.drewN | apply Kept.drew) | exact HK.out)⟩, ⟨by repeat (first | (with_reducible first | exact HB.out | apply below_alloc | apply pw_below_drewN | apply below_drew1) | exact HB.out)⟩⟩
            · rw [if_neg c15] at H
              exact absurd H (by simp)
          · rw [if_neg c14] at H
            exact absurd H (by simp)
      · rw [if_neg c5] at H
        have c5b0 : decide (x10_1 < (l0.length : Int)) = false := decide_eq_false c5
        have c5b0h := c5b0
        (try simp only [hl0_1] at c5b0h)
        clear c5
        obtain rfl := Option.some.inj H
        go_wp2
        first | go_end0 | ((try simp only [Exit.inBlock, Exit.then]); refine bodyPost_ret (results_none rfl _ _ _) rfl ?_)
        exact ⟨by first | rfl | (simp [errW_none, errW_some] <;> rfl) | (simp [*, errW_none, errW_some] <;> rfl), (by first | exact (by (with_reducible repeat (first | apply SubR_alloc | apply SubR_drewN | apply SubR_drew)); exact HO_0.out) | (simp only [hl0_1]; exact (by (with_reducible repeat (first | apply SubR_alloc | apply SubR_drewN | apply SubR_drew)); exact HO_0.out))), by repeat (first | (with_reducible first | exact HB.out | apply below_alloc | apply pw_below_drewN | apply below_drew1) | exact HB.out), by repeat (first | (with_reducible first | exact HK.out | apply Kept.alloc | apply Kept.drewN | apply Kept.drew) | exact HK.out)⟩

end Go.Proofs.YtfcenlhaepckoaaDoor.P
