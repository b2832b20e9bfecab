-- Printed by a program of this session (wip/tools) over the kit's print: not trusted, Lean checks it.
import Derived.Test.YtfcenlhaepckoaaDoorQ0n5
import Derived.Test.YtfcenlhaepckoaaDoorProg
import Derived.Test.YtfcenlhaepckoaaDoorNlendn5
import Derived.Test.YtfcenlhaepckoaaDoorP4n5
import Derived.Test.YtfcenlhaepckoaaDoorP0n5
import Derived.Test.YtfcenlhaepckoaaDoorElibn5
import Derived.Test.YtfcenlhaepckoaaDoorSqn5
import Derived.Test.YtfcenlhaepckoaaDoorP1n5
import Derived.Test.YtfcenlhaepckoaaDoorP5n5
import Derived.Test.YtfcenlhaepckoaaDoorLibsn5
namespace Go.Proofs.YtfcenlhaepckoaaDoor.Q
set_option linter.all false
open Go.Proofs.YtfcenlhaepckoaaDoor.P
open Go.RowKit Go.Proofs.YtfcenlhaepckoaaDoorW.PrintWords Go.Proofs.YtfcenlhaepckoaaDoorW.PrintLast Go.Proofs.YtfcenlhaepckoaaDoorW.PrintMore
attribute [local go_sem] max2_int min2_int max_two min_two max_three min_three max_four min_four   -- for this text's walks alone
attribute [local go_sem] cell_after
set_option linter.unusedVariables false
set_option linter.unusedSimpArgs false

/-! ### nat_Shl: function 17 -/
def nat_Shl.j0 : Nat → List Int → Int → Bool → Option (List Int × Int)
  | 0, _, _, _ => none
  | k + 1, x0, x1, x18 => if x18 = true then (some (([] : List Int), 2)) else ((nat_right.f k x0).bind fun t107 => (if 0 ≤ t107 then (if t107 ≤ (x0.length : Int) then ((some (x0.take (t107 : Int).toNat : List Int)).bind fun y108 => (if 0 ≤ (wrap64 ((wrap64 ((wrap64 (Int.tdiv x1 32)) + (y108.length : Int))) + 1)) then (if (wrap64 ((wrap64 ((wrap64 (Int.tdiv x1 32)) + (y108.length : Int))) + 1) : Int).toNat ≤ 70368744177664 then ((some (List.replicate (wrap64 ((wrap64 ((wrap64 (Int.tdiv x1 32)) + (y108.length : Int))) + 1) : Int).toNat 0 : List Int)).bind fun y113 => (if 0 ≤ (wrap64 (Int.tdiv x1 32)) then (if (wrap64 (Int.tdiv x1 32)) ≤ (y113.length : Int) then (if (wrap64 (Int.tdiv x1 32)) < (y113.length : Int) then ((nat_shift.f k (y113.drop ((wrap64 (Int.tdiv x1 32)) : Int).toNat) y108 (Int.tmod x1 32)).bind fun t120 => ((some (y113.take (((wrap64 (Int.tdiv x1 32)) : Int).toNat) ++ t120 ++ y113.drop y113.length : List Int)).bind fun y121 => ((nat_right.f k y121).bind fun t122 => (if 0 ≤ t122 then (if t122 ≤ (y113.length : Int) then (some ((y121.take (t122 : Int).toNat), 0)) else (none)) else (none))))) else (none)) else (none)) else (none))) else (none)) else (none))) else (none)) else (none)))
def nat_Shl.f (k : Nat) (l0 : List Int) (a1 : Int) : Option (List Int × Int) := if a1 < 0 then (some (([] : List Int), 1)) else ((nat_over.f k (([l0] : List (List Int)))).bind fun t104 => (if t104 = true then (some (([] : List Int), 2)) else ((nat_right.f k l0).bind fun t105 => (if t105 = 0 then (some (([] : List Int), 0)) else (if a1 > 8192 then (nat_Shl.j0 k l0 a1 true) else ((nat_Len.f k l0).bind fun t106 => (nat_Shl.j0 k l0 a1 (decide ((wrap64 (t106 + a1)) > 8192)))))))))
set_option maxHeartbeats 8000000 in
set_option maxRecDepth 100000 in
theorem nat_Shl.calls (k : Nat) (P0_ : Nat → Prop) (A0 : Option Addr) (c0 : Nat) (l0 : List Int) (a1 : Int) (r1 : List Int) (r2 : Int) (w : World) (hs0 : Kd.V (Kd.int .u32) 43 w w.heap.size (fun k_ => P0_ k_) (.slice A0 l0.length c0) l0) (h : nat_Shl.f k l0 a1 = some (r1, r2)) :
    Calls Tryd.prog 17 #[.slice A0 l0.length c0, .int .i64 a1] w fun e w' => ∃ v0_ : Value, e = .returned (.tuple #[v0_, .int .i64 r2]) ∧ Kd.R (Kd.int .u32) 43 w' w.heap.size (fun k_ => (w.heap.size ≤ k_)) v0_ r1 ∧ Below w.heap.size w w' := by
  have HO0 := Aside0.mk (show Kd.V (Kd.int .u32) 43 w w.heap.size (fun k_ => (P0_ k_ ∨ w.heap.size ≤ k_)) (.slice A0 l0.length c0) l0 from Kd.V_mono hs0 (fun k_ hk => .inl hk))
  have HB := Aside0.mk (Below.refl w.heap.size w)
  have H : (if a1 < 0 then (some (([] : List Int), 1)) else ((nat_over.f k (([l0] : List (List Int)))).bind fun t104 => (if t104 = true then (some (([] : List Int), 2)) else ((nat_right.f k l0).bind fun t105 => (if t105 = 0 then (some (([] : List Int), 0)) else (if a1 > 8192 then (nat_Shl.j0 k l0 a1 true) else ((nat_Len.f k l0).bind fun t106 => (nat_Shl.j0 k l0 a1 (decide ((wrap64 (t106 + a1)) > 8192)))))))))) = some (r1, r2) := h
  clear h
  by_cases c3 : a1 < 0
  · rw [if_pos c3] at H
    have c3b0 : decide (a1 < 0) = true := decide_eq_true c3
    clear c3
    simp only [Option.some.injEq, Prod.mk.injEq] at H
    obtain ⟨rfl, rfl⟩ := H
    go_enter Tryd.func17, Tryd.ntmps17
    go_wp2
    go_ret2
    exact ⟨_, by first | rfl | (simp [errW_none, errW_some] <;> rfl) | (simp [*, errW_none, errW_some] <;> rfl), by first | exact Kd.R_nil _ _ _ _ _ | exact Kd.N_nil _ _ _ _ _ | exact Kd.V_nil _ _ _ _ _ | exact Kd.Q_nil _ _ _ _ _ | exact Kd.S_nil _ _ _ _ _, by repeat (first | (with_reducible first | exact HB.out | apply below_alloc | apply pw_below_drewN | apply below_drew1) | exact HB.out)⟩
  · rw [if_neg c3] at H
    have c3b0 : decide (a1 < 0) = false := decide_eq_false c3
    clear c3
    obtain ⟨y101, hy101⟩ : ∃ y_ : List (List Int), y_ = (([l0] : List (List Int))) := ⟨_, rfl⟩
    replace H : ((nat_over.f k y101).bind fun t104 => (if t104 = true then (some (([] : List Int), 2)) else ((nat_right.f k l0).bind fun t105 => (if t105 = 0 then (some (([] : List Int), 0)) else (if a1 > 8192 then (nat_Shl.j0 k l0 a1 true) else ((nat_Len.f k l0).bind fun t106 => (nat_Shl.j0 k l0 a1 (decide ((wrap64 (t106 + a1)) > 8192))))))))) = some (r1, r2) := by first | (rw [hy101]; with_reducible exact H) | (have H2_ := (Option.bind_some _ _).symm.trans H; rw [hy101]; with_reducible exact H2_) | (have H2_ := (Option.bind_some _ _).symm.trans H; with_reducible exact H2_) | with_reducible exact H | (rw [hy101]; exact H) | exact H
    have Ny101 := Aside0.mk hy101
    clear hy101
    replace H := Option.bind_eq_some_iff.mp H
    obtain ⟨t104, A40, H⟩ := H
    replace H : (if t104 = true then (some (([] : List Int), 2)) else ((nat_right.f k l0).bind fun t105 => (if t105 = 0 then (some (([] : List Int), 0)) else (if a1 > 8192 then (nat_Shl.j0 k l0 a1 true) else ((nat_Len.f k l0).bind fun t106 => (nat_Shl.j0 k l0 a1 (decide ((wrap64 (t106 + a1)) > 8192)))))))) = some (r1, r2) := H
    have A4 := Aside0.mk A40
    clear A40
    by_cases c5 : t104 = true
    · subst c5
      have H1 : (some (([] : List Int), 2)) = some (r1, r2) := by rw [if_pos rfl] at H; exact H
      clear H
      have H := H1
      clear H1
      simp only [Option.some.injEq, Prod.mk.injEq] at H
      obtain ⟨rfl, rfl⟩ := H
      go_enter Tryd.func17, Tryd.ntmps17
      go_wp2_with (first | ((with_reducible refine gate_dst (N := 12) rfl ?_); refine Kd.N_lit (Kd.slice 43 (Kd.int .u32)) _ 24 ?hg (N' := 12) ?hd (xs := ([l0] : List (List Int))) (inner := [.slice A0 l0.length c0]) (ok := (fun k_ => (P0_ k_ ∨ w.heap.size ≤ k_))) (okp := (fun k_ => (P0_ k_ ∨ w.heap.size ≤ k_))) ?hr ?hp (fun _ hk => hk) ((show ∀ k_, w.heap.size ≤ k_ → (fun k_ => (P0_ k_ ∨ w.heap.size ≤ k_)) k_ from fun k_ hk => (.inr (Nat.le_trans (below_size bl_) hk))) _ (Nat.le_refl _)) (Below.refl _ _) (Nat.le_refl _) (by simp) ?_; (case hd => rfl); (case hg => rfl); (case hr => first | (go_simp; done) | (go_simp; rfl)); (case hp => exact (Reps.one (show Kd.FK (Kd.slice 43 (Kd.int .u32)) _ _ l0 [.slice A0 l0.length c0] from (Kd.FK_slice_mk (Kd.V_reads' (Kd.V_mono (ok' := (fun k_ => (P0_ k_ ∨ w.heap.size ≤ k_))) (HO0.out) (fun k_ hk => hk))).2.1 (Kd.V_F (Kd.V_mono (ok' := (fun k_ => (P0_ k_ ∨ w.heap.size ≤ k_))) (HO0.out) (fun k_ hk => hk))))) (Reps.none _ _))); intro v102 w6 ho7 hb hg_ hnew_; clear hg_ hnew_; (first | rw [← Ny101.out] at ho7 | (simp only [Int.reduceToNat] at ho7; rw [← Ny101.out] at ho7)); replace HO0 := Aside0.mk (Kd.V_elder' (va_ HO0.out) (Kd.N_base ho7) hb); have HO103 := Aside0.mk (Kd.N_lower ho7 (below_size bl_)); replace HB := Aside0.mk (below_step bl_ hb); clear hb ho7; obtain ⟨Ao8, co8, eo8⟩ := Kd.N_slice HO103.out; subst eo8) | ((with_reducible refine gate_callee (f := 24) rfl ?_); refine goesL_ (some 13) rfl rfl Tryd.func24 (by kernel_rfl) rfl #[.slice Ao8 y101.length co8] rfl am_ ?_; (with_reducible refine (nat_over.calls k _ _ y101 true _ ?side1 ?side2 A4.out).mono ?_); (case side1 => exact ca_ (Kd.N_reads' HO103.out).2.2); (case side2 => exact (Kd.N_reads' HO103.out).2.1); rintro e w' ⟨rfl, ⟨nd, rfl⟩⟩; refine ⟨_, rfl, ?_⟩))
      go_ret2
      exact ⟨_, by first | rfl | (simp [errW_none, errW_some] <;> rfl) | (simp [*, errW_none, errW_some] <;> rfl), by first | exact Kd.R_nil _ _ _ _ _ | exact Kd.N_nil _ _ _ _ _ | exact Kd.V_nil _ _ _ _ _ | exact Kd.Q_nil _ _ _ _ _ | exact Kd.S_nil _ _ _ _ _, by repeat (first | (with_reducible first | exact HB.out | apply below_alloc | apply pw_below_drewN | apply below_drew1) | exact HB.out)⟩
    · replace c5 := Bool.eq_false_iff.mpr c5
      subst c5
      have H1 : ((nat_right.f k l0).bind fun t105 => (if t105 = 0 then (some (([] : List Int), 0)) else (if a1 > 8192 then (nat_Shl.j0 k l0 a1 true) else ((nat_Len.f k l0).bind fun t106 => (nat_Shl.j0 k l0 a1 (decide ((wrap64 (t106 + a1)) > 8192))))))) = some (r1, r2) := by rw [if_neg (show ¬ (false = true) by decide)] at H; exact H
      clear H
      have H := H1
      clear H1
      replace H := Option.bind_eq_some_iff.mp H
      obtain ⟨t105, A90, H⟩ := H
      replace H : (if t105 = 0 then (some (([] : List Int), 0)) else (if a1 > 8192 then (nat_Shl.j0 k l0 a1 true) else ((nat_Len.f k l0).bind fun t106 => (nat_Shl.j0 k l0 a1 (decide ((wrap64 (t106 + a1)) > 8192)))))) = some (r1, r2) := H
      have A9 := Aside0.mk A90
      clear A90
      by_cases c10 : t105 = 0
      · rw [if_pos c10] at H
        have c10b0 : (t105 == 0) = true := beq_iff_eq.mpr c10
        have c10b1 : (t105 != 0) = false := bne_eq_false_iff_eq.mpr c10
        clear c10
        simp only [Option.some.injEq, Prod.mk.injEq] at H
        obtain ⟨rfl, rfl⟩ := H
        go_enter Tryd.func17, Tryd.ntmps17
        go_wp2_with (first | ((with_reducible refine gate_dst (N := 12) rfl ?_); refine Kd.N_lit (Kd.slice 43 (Kd.int .u32)) _ 24 ?hg (N' := 12) ?hd (xs := ([l0] : List (List Int))) (inner := [.slice A0 l0.length c0]) (ok := (fun k_ => (P0_ k_ ∨ w.heap.size ≤ k_))) (okp := (fun k_ => (P0_ k_ ∨ w.heap.size ≤ k_))) ?hr ?hp (fun _ hk => hk) ((show ∀ k_, w.heap.size ≤ k_ → (fun k_ => (P0_ k_ ∨ w.heap.size ≤ k_)) k_ from fun k_ hk => (.inr (Nat.le_trans (below_size bl_) hk))) _ (Nat.le_refl _)) (Below.refl _ _) (Nat.le_refl _) (by simp) ?_; (case hd => rfl); (case hg => rfl); (case hr => first | (go_simp; done) | (go_simp; rfl)); (case hp => exact (Reps.one (show Kd.FK (Kd.slice 43 (Kd.int .u32)) _ _ l0 [.slice A0 l0.length c0] from (Kd.FK_slice_mk (Kd.V_reads' (Kd.V_mono (ok' := (fun k_ => (P0_ k_ ∨ w.heap.size ≤ k_))) (HO0.out) (fun k_ hk => hk))).2.1 (Kd.V_F (Kd.V_mono (ok' := (fun k_ => (P0_ k_ ∨ w.heap.size ≤ k_))) (HO0.out) (fun k_ hk => hk))))) (Reps.none _ _))); intro v102 w11 ho12 hb hg_ hnew_; clear hg_ hnew_; (first | rw [← Ny101.out] at ho12 | (simp only [Int.reduceToNat] at ho12; rw [← Ny101.out] at ho12)); replace HO0 := Aside0.mk (Kd.V_elder' (va_ HO0.out) (Kd.N_base ho12) hb); have HO103 := Aside0.mk (Kd.N_lower ho12 (below_size bl_)); replace HB := Aside0.mk (below_step bl_ hb); clear hb ho12; obtain ⟨Ao13, co13, eo13⟩ := Kd.N_slice HO103.out; subst eo13) | ((with_reducible refine gate_callee (f := 24) rfl ?_); refine goesL_ (some 13) rfl rfl Tryd.func24 (by kernel_rfl) rfl #[.slice Ao13 y101.length co13] rfl am_ ?_; (with_reducible refine (nat_over.calls k _ _ y101 false _ ?side1 ?side2 A4.out).mono ?_); (case side1 => exact ca_ (Kd.N_reads' HO103.out).2.2); (case side2 => exact (Kd.N_reads' HO103.out).2.1); rintro e w' ⟨rfl, ⟨nd, rfl⟩⟩; refine ⟨_, rfl, ?_⟩) | ((with_reducible refine gate_callee (f := 29) rfl ?_); refine goesL_ (some 16) rfl rfl Tryd.func29 (by kernel_rfl) rfl #[.slice A0 l0.length c0] rfl am_ ?_; (with_reducible refine (nat_right.calls k _ _ l0 t105 _ ?side1 ?side2 A9.out).mono ?_); (case side1 => exact ca_ (Kd.V_reads' HO0.out).2.2); (case side2 => exact (Kd.V_reads' HO0.out).2.1); rintro e w' ⟨rfl, ⟨nd, rfl⟩⟩; refine ⟨_, rfl, ?_⟩))
        go_ret2
        exact ⟨_, by first | rfl | (simp [errW_none, errW_some] <;> rfl) | (simp [*, errW_none, errW_some] <;> rfl), by first | exact Kd.R_nil _ _ _ _ _ | exact Kd.N_nil _ _ _ _ _ | exact Kd.V_nil _ _ _ _ _ | exact Kd.Q_nil _ _ _ _ _ | exact Kd.S_nil _ _ _ _ _, by repeat (first | (with_reducible first | exact HB.out | apply below_alloc | apply pw_below_drewN | apply below_drew1) | exact HB.out)⟩
      · rw [if_neg c10] at H
        have c10b0 : (t105 == 0) = false := beq_eq_false_iff_ne.mpr c10
        have c10b1 : (t105 != 0) = true := bne_iff_ne.mpr c10
        have HC14 := Aside0.mk H
        clear H
        go_enter Tryd.func17, Tryd.ntmps17
        go_upto_region 7 with (first | ((with_reducible refine gate_dst (N := 12) rfl ?_); refine Kd.N_lit (Kd.slice 43 (Kd.int .u32)) _ 24 ?hg (N' := 12) ?hd (xs := ([l0] : List (List Int))) (inner := [.slice A0 l0.length c0]) (ok := (fun k_ => (P0_ k_ ∨ w.heap.size ≤ k_))) (okp := (fun k_ => (P0_ k_ ∨ w.heap.size ≤ k_))) ?hr ?hp (fun _ hk => hk) ((show ∀ k_, w.heap.size ≤ k_ → (fun k_ => (P0_ k_ ∨ w.heap.size ≤ k_)) k_ from fun k_ hk => (.inr (Nat.le_trans (below_size bl_) hk))) _ (Nat.le_refl _)) (Below.refl _ _) (Nat.le_refl _) (by simp) ?_; (case hd => rfl); (case hg => rfl); (case hr => first | (go_simp; done) | (go_simp; rfl)); (case hp => exact (Reps.one (show Kd.FK (Kd.slice 43 (Kd.int .u32)) _ _ l0 [.slice A0 l0.length c0] from (Kd.FK_slice_mk (Kd.V_reads' (Kd.V_mono (ok' := (fun k_ => (P0_ k_ ∨ w.heap.size ≤ k_))) (HO0.out) (fun k_ hk => hk))).2.1 (Kd.V_F (Kd.V_mono (ok' := (fun k_ => (P0_ k_ ∨ w.heap.size ≤ k_))) (HO0.out) (fun k_ hk => hk))))) (Reps.none _ _))); intro v102 w15 ho16 hb hg_ hnew_; clear hg_ hnew_; (first | rw [← Ny101.out] at ho16 | (simp only [Int.reduceToNat] at ho16; rw [← Ny101.out] at ho16)); replace HO0 := Aside0.mk (Kd.V_elder' (va_ HO0.out) (Kd.N_base ho16) hb); have HO103 := Aside0.mk (Kd.N_lower ho16 (below_size bl_)); replace HB := Aside0.mk (below_step bl_ hb); clear hb ho16; obtain ⟨Ao17, co17, eo17⟩ := Kd.N_slice HO103.out; subst eo17) | ((with_reducible refine gate_callee (f := 24) rfl ?_); refine goesL_ (some 13) rfl rfl Tryd.func24 (by kernel_rfl) rfl #[.slice Ao17 y101.length co17] rfl am_ ?_; (with_reducible refine (nat_over.calls k _ _ y101 false _ ?side1 ?side2 A4.out).mono ?_); (case side1 => exact ca_ (Kd.N_reads' HO103.out).2.2); (case side2 => exact (Kd.N_reads' HO103.out).2.1); rintro e w' ⟨rfl, ⟨nd, rfl⟩⟩; refine ⟨_, rfl, ?_⟩) | ((with_reducible refine gate_callee (f := 29) rfl ?_); refine goesL_ (some 16) rfl rfl Tryd.func29 (by kernel_rfl) rfl #[.slice A0 l0.length c0] rfl am_ ?_; (with_reducible refine (nat_right.calls k _ _ l0 t105 _ ?side1 ?side2 A9.out).mono ?_); (case side1 => exact ca_ (Kd.V_reads' HO0.out).2.2); (case side2 => exact (Kd.V_reads' HO0.out).2.1); rintro e w' ⟨rfl, ⟨nd, rfl⟩⟩; refine ⟨_, rfl, ?_⟩))
        (try simp only [Act.put, List.setIfInBounds_toArray, List.set_cons_zero, List.set_cons_succ])
        go_cut [18] (fun v18 wc => ∃ (kq : Nat) (x18_13 : Bool), v18 = .bool x18_13 ∧ Aside0 (nat_Shl.j0 kq l0 a1 x18_13 = some (r1, r2)) ∧ Aside0 (kq ≤ k) ∧ Aside0 (Kd.V (Kd.int .u32) 43 wc w.heap.size (fun k_ => (P0_ k_ ∨ w.heap.size ≤ k_)) (.slice A0 l0.length c0) l0) ∧ Aside0 (Below w.heap.size w wc))
        case first =>
          have H := HC14.out
          clear HC14
          by_cases c18 : a1 > 8192
          · rw [if_pos c18] at H
            have c18b0 : decide (8192 < a1) = true := decide_eq_true c18
            clear c18
            (first | rw [c18b0] | (simp only [i64_w, i32_w]; rw [c18b0]) | rw [c18b1] | (simp only [i64_w, i32_w]; rw [c18b1]) | skip)
            have H' := Aside0.mk H
            clear H
            go_wp2
            go_meet
            case rel => exact ⟨_, (true), (by first | rfl | (simp; done) | (simp [*]; done)), H', ⟨by first | omega | exact Nat.le_refl _⟩, ⟨by (with_reducible repeat (first | apply Kd.V_alloc | apply Kd.V_drewN | apply Kd.V_drew)); exact Kd.V_mono HO0.out (fun _ hk => hk.1)⟩, ⟨by repeat (first | (with_reducible first | exact HB.out | apply below_alloc | apply pw_below_drewN | apply below_drew1) | exact HB.out)⟩⟩
          · rw [if_neg c18] at H
            have c18b0 : decide (8192 < a1) = false := decide_eq_false c18
            clear c18
            (first | rw [c18b0] | (simp only [i64_w, i32_w]; rw [c18b0]) | rw [c18b1] | (simp only [i64_w, i32_w]; rw [c18b1]) | skip)
            replace H := Option.bind_eq_some_iff.mp H
            obtain ⟨t106, A190, H⟩ := H
            replace H : (nat_Shl.j0 k l0 a1 (decide ((wrap64 (t106 + a1)) > 8192))) = some (r1, r2) := H
            have A19 := Aside0.mk A190
            clear A190
            have H' := Aside0.mk H
            clear H
            go_wp2_with (first | (go_at_call 14; (with_reducible refine (nat_Len.calls k _ _ l0 t106 _ ?side1 ?side2 A19.out).mono ?_); (case side1 => exact ca_ (Kd.V_reads' HO0.out).2.2); (case side2 => exact (Kd.V_reads' HO0.out).2.1); rintro e w' ⟨rfl, ⟨nd, rfl⟩⟩))
            go_meet
            case rel => exact ⟨_, (decide ((wrap64 (t106 + a1)) > 8192)), (by first | rfl | (simp; done) | (simp [*]; done)), H', ⟨by first | omega | exact Nat.le_refl _⟩, ⟨by (with_reducible repeat (first | apply Kd.V_alloc | apply Kd.V_drewN | apply Kd.V_drew)); exact Kd.V_mono HO0.out (fun _ hk => hk.1)⟩, ⟨by repeat (first | (with_reducible first | exact HB.out | apply below_alloc | apply pw_below_drewN | apply below_drew1) | exact HB.out)⟩⟩
        case rest =>
          clear HC14
          try clear c1
          try clear c2
          try clear p2
          try clear c3
          try clear c3b0
          try clear c5
          try clear p6
          try clear c10
          try clear c10b0
          try clear c10b1
          try clear c17
          try clear c18
          try clear c18b0
          try clear c18b1
          obtain ⟨kq, x18_13, rfl, HA, HJ13, HO_0, HB⟩ := hcut
          cases kq with
          | zero => exact absurd HA.out (by simp [nat_Shl.j0])
          | succ kj13 =>
            have H := HA.out
            clear HA
            simp only [nat_Shl.j0] at H
            by_cases c20 : x18_13 = true
            · subst c20
              have H1 : (some (([] : List Int), 2)) = some (r1, r2) := by rw [if_pos rfl] at H; exact H
              clear H
              have H := H1
              clear H1
              simp only [Option.some.injEq, Prod.mk.injEq] at H
              obtain ⟨rfl, rfl⟩ := H
              go_wp2
              go_ret2
              exact ⟨_, by first | rfl | (simp [errW_none, errW_some] <;> rfl) | (simp [*, errW_none, errW_some] <;> rfl), by first | exact Kd.R_nil _ _ _ _ _ | exact Kd.N_nil _ _ _ _ _ | exact Kd.V_nil _ _ _ _ _ | exact Kd.Q_nil _ _ _ _ _ | exact Kd.S_nil _ _ _ _ _, by repeat (first | (with_reducible first | exact HB.out | apply below_alloc | apply pw_below_drewN | apply below_drew1) | exact HB.out)⟩
            · replace c20 := Bool.eq_false_iff.mpr c20
              subst c20
              have H1 : ((nat_right.f kj13 l0).bind fun t107 => (if 0 ≤ t107 then (if t107 ≤ (l0.length : Int) then ((some (l0.take (t107 : Int).toNat : List Int)).bind fun y108 => (if 0 ≤ (wrap64 ((wrap64 ((wrap64 (Int.tdiv a1 32)) + (y108.length : Int))) + 1)) then (if (wrap64 ((wrap64 ((wrap64 (Int.tdiv a1 32)) + (y108.length : Int))) + 1) : Int).toNat ≤ 70368744177664 then ((some (List.replicate (wrap64 ((wrap64 ((wrap64 (Int.tdiv a1 32)) + (y108.length : Int))) + 1) : Int).toNat 0 : List Int)).bind fun y113 => (if 0 ≤ (wrap64 (Int.tdiv a1 32)) then (if (wrap64 (Int.tdiv a1 32)) ≤ (y113.length : Int) then (if (wrap64 (Int.tdiv a1 32)) < (y113.length : Int) then ((nat_shift.f kj13 (y113.drop ((wrap64 (Int.tdiv a1 32)) : Int).toNat) y108 (Int.tmod a1 32)).bind fun t120 => ((some (y113.take (((wrap64 (Int.tdiv a1 32)) : Int).toNat) ++ t120 ++ y113.drop y113.length : List Int)).bind fun y121 => ((nat_right.f kj13 y121).bind fun t122 => (if 0 ≤ t122 then (if t122 ≤ (y113.length : Int) then (some ((y121.take (t122 : Int).toNat), 0)) else (none)) else (none))))) else (none)) else (none)) else (none))) else (none)) else (none))) else (none)) else (none))) = some (r1, r2) := by rw [if_neg (show ¬ (false = true) by decide)] at H; exact H
              clear H
              have H := H1
              clear H1
              replace H := Option.bind_eq_some_iff.mp H
              obtain ⟨t107, A210, H⟩ := H
              replace H : (if 0 ≤ t107 then (if t107 ≤ (l0.length : Int) then ((some (l0.take (t107 : Int).toNat : List Int)).bind fun y108 => (if 0 ≤ (wrap64 ((wrap64 ((wrap64 (Int.tdiv a1 32)) + (y108.length : Int))) + 1)) then (if (wrap64 ((wrap64 ((wrap64 (Int.tdiv a1 32)) + (y108.length : Int))) + 1) : Int).toNat ≤ 70368744177664 then ((some (List.replicate (wrap64 ((wrap64 ((wrap64 (Int.tdiv a1 32)) + (y108.length : Int))) + 1) : Int).toNat 0 : List Int)).bind fun y113 => (if 0 ≤ (wrap64 (Int.tdiv a1 32)) then (if (wrap64 (Int.tdiv a1 32)) ≤ (y113.length : Int) then (if (wrap64 (Int.tdiv a1 32)) < (y113.length : Int) then ((nat_shift.f kj13 (y113.drop ((wrap64 (Int.tdiv a1 32)) : Int).toNat) y108 (Int.tmod a1 32)).bind fun t120 => ((some (y113.take (((wrap64 (Int.tdiv a1 32)) : Int).toNat) ++ t120 ++ y113.drop y113.length : List Int)).bind fun y121 => ((nat_right.f kj13 y121).bind fun t122 => (if 0 ≤ t122 then (if t122 ≤ (y113.length : Int) then (some ((y121.take (t122 : Int).toNat), 0)) else (none)) else (none))))) else (none)) else (none)) else (none))) else (none)) else (none))) else (none)) else (none)) = some (r1, r2) := H
              have A21 := Aside0.mk A210
              clear A210
              by_cases c22 : 0 ≤ t107
              · rw [if_pos c22] at H
                have c22b0 := eq_true c22
                have c22b1 : decide (0 ≤ t107) = true := decide_eq_true c22
                clear c22
                by_cases c23 : t107 ≤ (l0.length : Int)
                · rw [if_pos c23] at H
                  have c23b0 := eq_true c23
                  have c23b1 : decide (t107 ≤ (l0.length : Int)) = true := decide_eq_true c23
                  clear c23
                  obtain ⟨y108, hy108⟩ : ∃ y_ : List Int, y_ = (l0.take (t107 : Int).toNat) := ⟨_, rfl⟩
                  replace H : (if 0 ≤ (wrap64 ((wrap64 ((wrap64 (Int.tdiv a1 32)) + (y108.length : Int))) + 1)) then (if (wrap64 ((wrap64 ((wrap64 (Int.tdiv a1 32)) + (y108.length : Int))) + 1) : Int).toNat ≤ 70368744177664 then ((some (List.replicate (wrap64 ((wrap64 ((wrap64 (Int.tdiv a1 32)) + (y108.length : Int))) + 1) : Int).toNat 0 : List Int)).bind fun y113 => (if 0 ≤ (wrap64 (Int.tdiv a1 32)) then (if (wrap64 (Int.tdiv a1 32)) ≤ (y113.length : Int) then (if (wrap64 (Int.tdiv a1 32)) < (y113.length : Int) then ((nat_shift.f kj13 (y113.drop ((wrap64 (Int.tdiv a1 32)) : Int).toNat) y108 (Int.tmod a1 32)).bind fun t120 => ((some (y113.take (((wrap64 (Int.tdiv a1 32)) : Int).toNat) ++ t120 ++ y113.drop y113.length : List Int)).bind fun y121 => ((nat_right.f kj13 y121).bind fun t122 => (if 0 ≤ t122 then (if t122 ≤ (y113.length : Int) then (some ((y121.take (t122 : Int).toNat), 0)) else (none)) else (none))))) else (none)) else (none)) else (none))) else (none)) else (none)) = some (r1, r2) := by first | (rw [hy108]; with_reducible exact H) | (have H2_ := (Option.bind_some _ _).symm.trans H; rw [hy108]; with_reducible exact H2_) | (have H2_ := (Option.bind_some _ _).symm.trans H; with_reducible exact H2_) | with_reducible exact H | (rw [hy108]; exact H) | exact H
                  have Ny108 := Aside0.mk hy108
                  clear hy108
                  obtain ⟨ji24, hji24⟩ : ∃ j_ : Int, (wrap64 ((wrap64 ((wrap64 (Int.tdiv a1 32)) + (y108.length : Int))) + 1)) = j_ := ⟨_, rfl⟩
                  replace H : (if 0 ≤ (ji24) then (if (ji24 : Int).toNat ≤ 70368744177664 then ((some (List.replicate (ji24 : Int).toNat 0 : List Int)).bind fun y113 => (if 0 ≤ (wrap64 (Int.tdiv a1 32)) then (if (wrap64 (Int.tdiv a1 32)) ≤ (y113.length : Int) then (if (wrap64 (Int.tdiv a1 32)) < (y113.length : Int) then ((nat_shift.f kj13 (y113.drop ((wrap64 (Int.tdiv a1 32)) : Int).toNat) y108 (Int.tmod a1 32)).bind fun t120 => ((some (y113.take (((wrap64 (Int.tdiv a1 32)) : Int).toNat) ++ t120 ++ y113.drop y113.length : List Int)).bind fun y121 => ((nat_right.f kj13 y121).bind fun t122 => (if 0 ≤ t122 then (if t122 ≤ (y113.length : Int) then (some ((y121.take (t122 : Int).toNat), 0)) else (none)) else (none))))) else (none)) else (none)) else (none))) else (none)) else (none)) = some (r1, r2) := by first | (rw [hji24] at H; exact H) | (simp only [hji24] at H ⊢; exact H)
                  (try rw [hji24] at A21)
                  have hji24w : (IntKind.i64.wrap ((wrap64 ((wrap64 (Int.tdiv a1 32)) + (y108.length : Int))) + 1)) = ji24 := (i64_w _).trans hji24
                  by_cases c25 : 0 ≤ (ji24)
                  · rw [if_pos c25] at H
                    have c25b0 := eq_true c25
                    have c25b1 : decide (0 ≤ (ji24)) = true := decide_eq_true c25
                    clear c25
                    by_cases c26 : (ji24 : Int).toNat ≤ 70368744177664
                    · rw [if_pos c26] at H
                      have c26b0 := eq_true c26
                      have c26b1 : decide ((ji24 : Int).toNat ≤ 70368744177664) = true := decide_eq_true c26
                      clear c26
                      obtain ⟨y113, hy113⟩ : ∃ y_ : List Int, y_ = (List.replicate (ji24 : Int).toNat 0) := ⟨_, rfl⟩
                      replace H : (if 0 ≤ (wrap64 (Int.tdiv a1 32)) then (if (wrap64 (Int.tdiv a1 32)) ≤ (y113.length : Int) then (if (wrap64 (Int.tdiv a1 32)) < (y113.length : Int) then ((nat_shift.f kj13 (y113.drop ((wrap64 (Int.tdiv a1 32)) : Int).toNat) y108 (Int.tmod a1 32)).bind fun t120 => ((some (y113.take (((wrap64 (Int.tdiv a1 32)) : Int).toNat) ++ t120 ++ y113.drop y113.length : List Int)).bind fun y121 => ((nat_right.f kj13 y121).bind fun t122 => (if 0 ≤ t122 then (if t122 ≤ (y113.length : Int) then (some ((y121.take (t122 : Int).toNat), 0)) else (none)) else (none))))) else (none)) else (none)) else (none)) = some (r1, r2) := by first | (rw [hy113]; with_reducible exact H) | (have H2_ := (Option.bind_some _ _).symm.trans H; rw [hy113]; with_reducible exact H2_) | (have H2_ := (Option.bind_some _ _).symm.trans H; with_reducible exact H2_) | with_reducible exact H | (rw [hy113]; exact H) | exact H
                      have Ny113 := Aside0.mk hy113
                      clear hy113
                      obtain ⟨ji27, hji27⟩ : ∃ j_ : Int, (wrap64 (Int.tdiv a1 32)) = j_ := ⟨_, rfl⟩
                      (try rw [hji27] at hji24)
                      (try rw [hji27] at hji24w)
                      replace H : (if 0 ≤ (ji27) then (if (ji27) ≤ (y113.length : Int) then (if (ji27) < (y113.length : Int) then ((nat_shift.f kj13 (y113.drop ((ji27) : Int).toNat) y108 (Int.tmod a1 32)).bind fun t120 => ((some (y113.take (((ji27) : Int).toNat) ++ t120 ++ y113.drop y113.length : List Int)).bind fun y121 => ((nat_right.f kj13 y121).bind fun t122 => (if 0 ≤ t122 then (if t122 ≤ (y113.length : Int) then (some ((y121.take (t122 : Int).toNat), 0)) else (none)) else (none))))) else (none)) else (none)) else (none)) = some (r1, r2) := by first | (rw [hji27] at H; exact H) | (simp only [hji27] at H ⊢; exact H) | (simp only [hji27, hji24] at H ⊢; exact H)
                      (try rw [hji27] at A21)
                      have hji27w : (IntKind.i64.wrap (Int.tdiv a1 32)) = ji27 := (i64_w _).trans hji27
                      by_cases c28 : 0 ≤ (ji27)
                      · rw [if_pos c28] at H
                        have c28b0 := eq_true c28
                        have c28b1 : decide (0 ≤ (ji27)) = true := decide_eq_true c28
                        clear c28
                        by_cases c29 : (ji27) ≤ (y113.length : Int)
                        · rw [if_pos c29] at H
                          have c29b0 := eq_true c29
                          have c29b1 : decide ((ji27) ≤ (y113.length : Int)) = true := decide_eq_true c29
                          clear c29
                          obtain ⟨y116, hy116⟩ : ∃ y_ : List Int, y_ = (y113.drop ((ji27) : Int).toNat) := ⟨_, rfl⟩
                          replace H : (if (ji27) < (y113.length : Int) then ((nat_shift.f kj13 y116 y108 (Int.tmod a1 32)).bind fun t120 => ((some (y113.take (((ji27) : Int).toNat) ++ t120 ++ y113.drop y113.length : List Int)).bind fun y121 => ((nat_right.f kj13 y121).bind fun t122 => (if 0 ≤ t122 then (if t122 ≤ (y113.length : Int) then (some ((y121.take (t122 : Int).toNat), 0)) else (none)) else (none))))) else (none)) = some (r1, r2) := by first | (rw [hy116]; with_reducible exact H) | (have H2_ := (Option.bind_some _ _).symm.trans H; rw [hy116]; with_reducible exact H2_) | (have H2_ := (Option.bind_some _ _).symm.trans H; with_reducible exact H2_) | with_reducible exact H | (rw [hy116]; exact H) | exact H
                          have Ny116 := Aside0.mk hy116
                          clear hy116
                          by_cases c30 : (ji27) < (y113.length : Int)
                          · rw [if_pos c30] at H
                            have c30b0 := eq_true c30
                            have c30b1 : decide ((ji27) < (y113.length : Int)) = true := decide_eq_true c30
                            clear c30
                            replace H := Option.bind_eq_some_iff.mp H
                            obtain ⟨t120, A310, H⟩ := H
                            replace H : ((some (y113.take (((ji27) : Int).toNat) ++ t120 ++ y113.drop y113.length : List Int)).bind fun y121 => ((nat_right.f kj13 y121).bind fun t122 => (if 0 ≤ t122 then (if t122 ≤ (y113.length : Int) then (some ((y121.take (t122 : Int).toNat), 0)) else (none)) else (none)))) = some (r1, r2) := H
                            have A31 := Aside0.mk A310
                            clear A310
                            obtain ⟨y121, hy121⟩ : ∃ y_ : List Int, y_ = (y113.take (((ji27) : Int).toNat) ++ t120 ++ y113.drop y113.length) := ⟨_, rfl⟩
                            replace H : ((nat_right.f kj13 y121).bind fun t122 => (if 0 ≤ t122 then (if t122 ≤ (y113.length : Int) then (some ((y121.take (t122 : Int).toNat), 0)) else (none)) else (none))) = some (r1, r2) := by first | (rw [hy121]; with_reducible exact H) | (have H2_ := (Option.bind_some _ _).symm.trans H; rw [hy121]; with_reducible exact H2_) | (have H2_ := (Option.bind_some _ _).symm.trans H; with_reducible exact H2_) | with_reducible exact H | (rw [hy121]; exact H) | exact H
                            have Ny121 := Aside0.mk hy121
                            clear hy121
                            replace H := Option.bind_eq_some_iff.mp H
                            obtain ⟨t122, A320, H⟩ := H
                            replace H : (if 0 ≤ t122 then (if t122 ≤ (y113.length : Int) then (some ((y121.take (t122 : Int).toNat), 0)) else (none)) else (none)) = some (r1, r2) := H
                            have A32 := Aside0.mk A320
                            clear A320
                            by_cases c33 : 0 ≤ t122
                            · rw [if_pos c33] at H
                              have c33b0 := eq_true c33
                              have c33b1 : decide (0 ≤ t122) = true := decide_eq_true c33
                              clear c33
                              by_cases c34 : t122 ≤ (y113.length : Int)
                              · rw [if_pos c34] at H
                                have c34b0 := eq_true c34
                                have c34b1 : decide (t122 ≤ (y113.length : Int)) = true := decide_eq_true c34
                                clear c34
                                obtain ⟨y123, hy123⟩ : ∃ y_ : List Int, y_ = (y121.take (t122 : Int).toNat) := ⟨_, rfl⟩
                                replace H : (some (y123, 0)) = some (r1, r2) := by first | (rw [hy123]; with_reducible exact H) | (have H2_ := (Option.bind_some _ _).symm.trans H; rw [hy123]; with_reducible exact H2_) | (have H2_ := (Option.bind_some _ _).symm.trans H; with_reducible exact H2_) | with_reducible exact H | (rw [hy123]; exact H) | exact H
                                have Ny123 := Aside0.mk hy123
                                clear hy123
                                simp only [Option.some.injEq, Prod.mk.injEq] at H
                                obtain ⟨rfl, rfl⟩ := H
                                go_wp2_with (first | ((with_reducible refine gate_callee (f := 25) rfl ?_); refine goesL_ (some 29) rfl rfl Tryd.func25 (by kernel_rfl) rfl #[.slice A0 l0.length c0] rfl am_ ?_; (with_reducible refine (nat_cut_read.calls (l' := y108) (hl' := Ny108.out) kj13 _ _ l0 t107 _ ?side1 ?side2 A21.out).mono ?_); (case side1 => exact ca_ (Kd.V_reads' HO_0.out).2.2); (case side2 => exact (Kd.V_reads' HO_0.out).2.1); rintro e w' ⟨rfl, ⟨nd, rfl⟩⟩; refine ⟨_, rfl, ?_⟩; have q35 : (t107 : Int) ≤ ((l0.length : Int) : Int) := od_; obtain ⟨i035, hi035, _, hsz35, _⟩ := info_parts info43; have hroom35 : l0.length ≤ c0 := (Kd.V_reads' HO_0.out).2.1; have hC35 : Kd.F (Kd.int .u32) _ _ A0 l0.length l0 := (Kd.V_at (base := w.heap.size) HO_0.out).2.2; have hcut35 := cut_to (P := Tryd.prog) 24 43 .i64 Tryd.underlying24 hi035 A0 l0.length c0 t107 od_ q35 hroom35; have hr35 := Kd.F_take (m := (t107 : Int).toNat) hC35 (by omega); have hy35 : y108.length = (t107 : Int).toNat := (by rw [Ny108.out, List.length_take]; omega); rw [← Ny108.out] at hr35; rw [← hy35] at hcut35; have HO112 := Aside0.mk (show Kd.V (Kd.int .u32) 43 _ w.heap.size _ (.slice A0 y108.length c0) y108 from Kd.V_mk (by omega) hr35); have HC112 := Aside0.mk (show y108.length ≤ c0 from by omega); clear hr35 hC35 hroom35 hi035 hsz35; have KY35 := Aside0.mk hy35; clear hy35; replace q35 := eq_true q35) | ((with_reducible refine gate_dst (N := 36) rfl ?_); refine Kd.R_make (Kd.int .u32) _ 43 rfl (N := 36) rfl 24 _ _ rfl ji24 rfl rfl Tryd.underlying24 (.int .u32 0) 4 info43 rfl (by decide) (by omega) 0 (ok := fun _ => True) (okp := fun _ => True) rfl (fun _ hk => hk) trivial od_ (Nat.le_trans (Nat.mul_le_mul_right _ (od_ : ji24.toNat ≤ 70368744177664)) (by omega)) (Below.refl _ _) (Nat.le_refl _) ?_; intro v114 w36 ho37 hb hg_ hnew_; clear hg_ hnew_; (first | rw [← Ny113.out] at ho37 | (simp only [Int.reduceToNat] at ho37; rw [← Ny113.out] at ho37)); replace HO_0 := Aside0.mk (Kd.V_elder' (va_ HO_0.out) (Kd.R_base ho37) hb); replace HO112 := Aside0.mk (Kd.V_elder' (va_ HO112.out) (Kd.R_base ho37) hb); have HO115 := Aside0.mk (Kd.R_lower (Kd.R_newM (M := fun k_ => (w.heap.size ≤ k_)) ho37 (below_size bl_) (fun k_ h_ => h_)) (below_size bl_)); replace HB := Aside0.mk (below_step bl_ hb); clear hb ho37; obtain ⟨Ao39, co39, eo39⟩ := Kd.R_slice HO115.out; subst eo39; (try clear hcut35); have q38 : ((ji27) : Int) ≤ ((y113.length : Int) : Int) := od_; obtain ⟨i038, hi038, _, hsz38, _⟩ := info_parts info43; have hroom38 : y113.length ≤ co39 := (Kd.R_reads' HO115.out).2.1; have hC38 : Kd.C (Kd.int .u32) _ Ao39 y113.length y113 := (Kd.R_reads' HO115.out).2.2; have q038 : (0 : Int) ≤ ((ji27) : Int) := od_; have hcut38 := cut_from (P := Tryd.prog) 24 43 .i64 Tryd.underlying24 hi038 1 hsz38 Ao39 y113.length co39 (ji27) q038 q38; have hr38 := Kd.C_drop (m := ((ji27) : Int).toNat) (c := co39) hC38 (by omega) hroom38; obtain ⟨A38, hA38⟩ : ∃ A1, A1 = (if co39 = ((ji27) : Int).toNat then Ao39 else (Ao39 : Option Addr).map (·.add (((ji27) : Int).toNat * 1))) := ⟨_, rfl⟩; obtain ⟨c38, hc38⟩ : ∃ c1, c1 = co39 - ((ji27) : Int).toNat := ⟨_, rfl⟩; have hy38 : y116.length = y113.length - ((ji27) : Int).toNat := (by rw [Ny116.out, List.length_drop] <;> omega); rw [show (y113).drop ((ji27) : Int).toNat = y116 from Ny116.out.symm] at hr38; replace hr38 : Kd.C (Kd.int .u32) _ A38 y116.length y116 := (by rw [hA38]; exact hr38); rw [← hy38, ← hA38, ← hc38] at hcut38; have HR119 := Aside0.mk hr38; have HC119 := Aside0.mk (show y116.length ≤ c38 from by rw [hy38, hc38]; exact Nat.sub_le_sub_right hroom38 _); have KC38 := Aside0.mk hc38; clear hr38 hC38 hroom38 hi038 hsz38 hc38; have KY38 := Aside0.mk hy38; have KA38 := Aside0.mk hA38; clear hy38 hA38; have KL38 := Aside0.mk (show ((ji27) : Int).toNat ≤ y113.length from by omega); replace q38 := eq_true q38) | ((with_reducible refine gate_callee (f := 33) rfl ?_); refine goesL_ (some 44) rfl rfl Tryd.func33 (by kernel_rfl) rfl #[.slice A38 y116.length c38, .slice A0 y108.length c0, .int .i64 (Int.tmod a1 32)] rfl am_ ?_; (with_reducible refine (nat_shift_lend.calls (lo := ((ji27) : Int).toNat) (hi := y113.length) (hv := rfl) (hlt := by have h1_ := (od_ : ((ji27) : Int) < ((y113.length : Int) : Int)); have h2_ := (Kd.R_reads' HO115.out).1; simp only [Int.toNat_natCast] at *; omega) (h2 := by have h1_ := True.intro; have h2_ := (Kd.R_reads' HO115.out).1; simp only [Int.toNat_natCast] at *; omega) (hA := KA38.out) (hc := KC38.out) (hl := by rw [Ny116.out, List.take_length]) kj13 (fun k_ => some k_ = (.slice Ao39 y113.length co39 : Value).ownBlock) (.slice Ao39 y113.length co39) y113 _ _ y108 (Int.tmod a1 32) t120 w _ ?side1 ?side2 ?side3 ?side4 A31.out).mono ?_); (case side1 => repeat (first | (with_reducible first | exact HB.out | apply below_alloc | apply pw_below_drewN | apply below_drew1) | exact HB.out)); (case side2 => exact Kd.R_tight rfl HO115.out); (case side3 => exact Kd.C_kept_ownV (HO112.out) (fun k_ hk_ hs_ => (hk_.2) hs_)); (case side4 => exact (Kd.V_reads' HO112.out).2.1); rintro e w40 ⟨rfl, hy0, hb, hkp⟩; refine ⟨_, rfl, ?_⟩; rw [← Ny121.out] at hy0; replace HO_0 := Aside0.mk (Kd.V_mono (ok' := fun k_ => (P0_ k_ ∨ w.heap.size ≤ k_) ∧ some k_ ≠ (.slice Ao39 y113.length co39 : Value).ownBlock) (Kd.V_keptB (HO_0.out) hkp (fun k_ hk_ hs_ => (hk_.2) hs_)) (fun k_ hk_ => ⟨hk_.1.1, hk_.1.2⟩)); replace HO112 := Aside0.mk (Kd.V_mono (ok' := fun k_ => (P0_ k_ ∨ w.heap.size ≤ k_) ∧ some k_ ≠ (.slice Ao39 y113.length co39 : Value).ownBlock) (Kd.V_keptB (HO112.out) hkp (fun k_ hk_ hs_ => (hk_.2) hs_)) (fun k_ hk_ => ⟨hk_.1.1, hk_.1.2⟩)); replace HO115 := Aside0.mk (Kd.R_reok rfl hy0 (fun k_ e_ => HO115.out.1 k_ e_)); replace HB := Aside0.mk (hb); (try clear hb); (try clear hkp); (try clear hy0)) | ((with_reducible refine gate_callee (f := 25) rfl ?_); refine goesL_ (some 46) rfl rfl Tryd.func25 (by kernel_rfl) rfl #[.slice Ao39 y121.length co39] rfl (by (try simp only [List.map_toArray, List.map_cons, List.map_nil]); first | done | (rw [show y121.length = y113.length from (Kd.R_reads' HO115.out).1.symm] <;> rfl) | rfl | (simp only [List.length_drop, List.length_take]; rfl)) ?_; (with_reducible refine (nat_cut_read.calls (l' := y123) (hl' := Ny123.out) kj13 _ _ y121 t122 _ ?side1 ?side2 A32.out).mono ?_); (case side1 => exact ca_ (Kd.R_reads' HO115.out).2.2); (case side2 => rw [show y121.length = y113.length from (Kd.R_reads' HO115.out).1.symm]; exact (Kd.R_reads' HO115.out).2.1); rintro e w' ⟨rfl, ⟨nd, rfl⟩⟩; refine ⟨_, rfl, ?_⟩; have q41 : (t122 : Int) ≤ ((y113.length : Int) : Int) := od_; obtain ⟨i041, hi041, _, hsz41, _⟩ := info_parts info43; have hcut41 := cut_to (P := Tryd.prog) 24 43 .i64 Tryd.underlying24 hi041 Ao39 y113.length co39 t122 od_ q41 (Kd.R_reads' HO115.out).2.1; have hr41 := Kd.R_take (m := (t122 : Int).toNat) HO115.out (by have e_ := (Kd.R_reads' HO115.out).1; omega); have hy41 : y123.length = (t122 : Int).toNat := (by have e_ := (Kd.R_reads' HO115.out).1; rw [Ny123.out, List.length_take]; omega); rw [← Ny123.out] at hr41; rw [← hy41] at hr41 hcut41; clear hy41 hi041 hsz41 HO115; have HO125 := Aside0.mk hr41; clear hr41; replace q41 := eq_true q41))
                                go_ret2
                                exact ⟨_, by first | rfl | (simp [errW_none, errW_some] <;> rfl) | (simp only [← hji24, ← hji27]; first | rfl | (simp [errW_none, errW_some] <;> rfl)) | (simp [*, errW_none, errW_some] <;> rfl), by (with_reducible repeat (first | apply Kd.R_alloc | apply Kd.R_drewN | apply Kd.R_drew)); exact Kd.R_mono HO125.out (fun _ hk => hk.1), by repeat (first | (with_reducible first | exact HB.out | apply below_alloc | apply pw_below_drewN | apply below_drew1) | exact HB.out)⟩
                              · rw [if_neg c34] at H
                                exact absurd H (by simp)
                            · rw [if_neg c33] at H
                              exact absurd H (by simp)
                          · rw [if_neg c30] at H
                            exact absurd H (by simp)
                        · rw [if_neg c29] at H
                          exact absurd H (by simp)
                      · rw [if_neg c28] at H
                        exact absurd H (by simp)
                    · rw [if_neg c26] at H
                      exact absurd H (by simp)
                  · rw [if_neg c25] at H
                    exact absurd H (by simp)
                · rw [if_neg c23] at H
                  exact absurd H (by simp)
              · rw [if_neg c22] at H
                exact absurd H (by simp)

/-! ### nat_long: function 31 -/
def nat_long.f (k : Nat) (l0 : List Int) (l1 : List Int) : Option (List Int × List Int) := none
theorem nat_long.calls (k : Nat) (A0 : Option Addr) (c0 : Nat) (l0 : List Int) (A1 : Option Addr) (c1 : Nat) (l1 : List Int) (r1 r2 : List Int) (w : World) (hr0 : Kd.C (Kd.int .u32) w A0 l0.length l0) (hc0 : l0.length ≤ c0) (hr1 : Kd.C (Kd.int .u32) w A1 l1.length l1) (hc1 : l1.length ≤ c1) (h : nat_long.f k l0 l1 = some (r1, r2)) :
    Calls Tryd.prog 31 #[.slice A0 l0.length c0, .slice A1 l1.length c1] w fun e w' => ∃ (v0_ v1_ : Value), e = .returned (.tuple #[v0_, v1_]) ∧ Kd.R (Kd.int .u32) 43 w' w.heap.size (fun k_ => some k_ ≠ v1_.ownBlock) v0_ r1 ∧ Kd.R (Kd.int .u32) 43 w' w.heap.size (fun k_ => some k_ ≠ v0_.ownBlock) v1_ r2 ∧ Below w.heap.size w w' := by
  simp [nat_long.f] at h

/-! ### nat_DivMod: function 13 -/
def nat_DivMod.f (k : Nat) (l0 : List Int) (l1 : List Int) : Option (List Int × List Int × Int) := (nat_over.f k (([l0, l1] : List (List Int)))).bind fun t129 => (if t129 = true then (some (([] : List Int), ([] : List Int), 2)) else ((nat_right.f k l1).bind fun t130 => (if t130 = 0 then (some (([] : List Int), ([] : List Int), 10)) else ((nat_Cmp.f k l0 l1).bind fun t131 => (if t131 < 0 then ((nat_Trim.f k l0).bind fun t132 => (some (([] : List Int), t132, 0))) else ((nat_right.f k l1).bind fun t135 => (if 0 ≤ t135 then (if t135 ≤ (l1.length : Int) then ((some (l1.take (t135 : Int).toNat : List Int)).bind fun y136 => (if (y136.length : Int) = 1 then ((nat_Trim.f k l0).bind fun t141 => (if 0 < (y136.length : Int) then ((nat_short.f k t141 (rd y136 0)).bind fun bt145 => ((nat_right.f k bt145.2).bind fun t147 => (if 0 ≤ t147 then (if t147 ≤ (t141.length : Int) then ((nat_Of.f k (IntKind.u64.wrap (bt145.1))).bind fun t151 => (some ((bt145.2.take (t147 : Int).toNat), t151, 0))) else (none)) else (none)))) else (none))) else ((nat_right.f k l0).bind fun t154 => (if 0 ≤ t154 then (if t154 ≤ (l0.length : Int) then ((nat_long.f k (l0.take (t154 : Int).toNat) y136).bind fun bt160 => (some (bt160.1, bt160.2, 0))) else (none)) else (none))))) else (none)) else (none))))))))
set_option maxHeartbeats 8000000 in
set_option maxRecDepth 100000 in
theorem nat_DivMod.calls (k : Nat) (P0_ : Nat → Prop) (A0 : Option Addr) (c0 : Nat) (l0 : List Int) (P1_ : Nat → Prop) (A1 : Option Addr) (c1 : Nat) (l1 : List Int) (r1 : List Int) (r2 : List Int) (r3 : Int) (w : World) (hs0 : Kd.V (Kd.int .u32) 43 w w.heap.size (fun k_ => P0_ k_) (.slice A0 l0.length c0) l0) (hs1 : Kd.V (Kd.int .u32) 43 w w.heap.size (fun k_ => P1_ k_) (.slice A1 l1.length c1) l1) (h : nat_DivMod.f k l0 l1 = some (r1, r2, r3)) :
    Calls Tryd.prog 13 #[.slice A0 l0.length c0, .slice A1 l1.length c1] w fun e w' => ∃ v0_ v1_ : Value, e = .returned (.tuple #[v0_, v1_, .int .i64 r3]) ∧ Kd.R (Kd.int .u32) 43 w' w.heap.size (fun k_ => (w.heap.size ≤ k_) ∧ some k_ ≠ (v1_ : Value).ownBlock) v0_ r1 ∧ Kd.R (Kd.int .u32) 43 w' w.heap.size (fun k_ => (w.heap.size ≤ k_) ∧ some k_ ≠ (v0_ : Value).ownBlock) v1_ r2 ∧ Below w.heap.size w w' := by
  have HO0 := Aside0.mk (show Kd.V (Kd.int .u32) 43 w w.heap.size (fun k_ => ((P0_ k_ ∨ P1_ k_) ∨ w.heap.size ≤ k_)) (.slice A0 l0.length c0) l0 from Kd.V_mono hs0 (fun k_ hk => .inl (.inl hk)))
  have HO1 := Aside0.mk (show Kd.V (Kd.int .u32) 43 w w.heap.size (fun k_ => ((P0_ k_ ∨ P1_ k_) ∨ w.heap.size ≤ k_)) (.slice A1 l1.length c1) l1 from Kd.V_mono hs1 (fun k_ hk => .inl (.inr hk)))
  have HB := Aside0.mk (Below.refl w.heap.size w)
  have H : ((nat_over.f k (([l0, l1] : List (List Int)))).bind fun t129 => (if t129 = true then (some (([] : List Int), ([] : List Int), 2)) else ((nat_right.f k l1).bind fun t130 => (if t130 = 0 then (some (([] : List Int), ([] : List Int), 10)) else ((nat_Cmp.f k l0 l1).bind fun t131 => (if t131 < 0 then ((nat_Trim.f k l0).bind fun t132 => (some (([] : List Int), t132, 0))) else ((nat_right.f k l1).bind fun t135 => (if 0 ≤ t135 then (if t135 ≤ (l1.length : Int) then ((some (l1.take (t135 : Int).toNat : List Int)).bind fun y136 => (if (y136.length : Int) = 1 then ((nat_Trim.f k l0).bind fun t141 => (if 0 < (y136.length : Int) then ((nat_short.f k t141 (rd y136 0)).bind fun bt145 => ((nat_right.f k bt145.2).bind fun t147 => (if 0 ≤ t147 then (if t147 ≤ (t141.length : Int) then ((nat_Of.f k (IntKind.u64.wrap (bt145.1))).bind fun t151 => (some ((bt145.2.take (t147 : Int).toNat), t151, 0))) else (none)) else (none)))) else (none))) else ((nat_right.f k l0).bind fun t154 => (if 0 ≤ t154 then (if t154 ≤ (l0.length : Int) then ((nat_long.f k (l0.take (t154 : Int).toNat) y136).bind fun bt160 => (some (bt160.1, bt160.2, 0))) else (none)) else (none))))) else (none)) else (none))))))))) = some (r1, r2, r3) := h
  clear h
  obtain ⟨y126, hy126⟩ : ∃ y_ : List (List Int), y_ = (([l0, l1] : List (List Int))) := ⟨_, rfl⟩
  replace H : ((nat_over.f k y126).bind fun t129 => (if t129 = true then (some (([] : List Int), ([] : List Int), 2)) else ((nat_right.f k l1).bind fun t130 => (if t130 = 0 then (some (([] : List Int), ([] : List Int), 10)) else ((nat_Cmp.f k l0 l1).bind fun t131 => (if t131 < 0 then ((nat_Trim.f k l0).bind fun t132 => (some (([] : List Int), t132, 0))) else ((nat_right.f k l1).bind fun t135 => (if 0 ≤ t135 then (if t135 ≤ (l1.length : Int) then ((some (l1.take (t135 : Int).toNat : List Int)).bind fun y136 => (if (y136.length : Int) = 1 then ((nat_Trim.f k l0).bind fun t141 => (if 0 < (y136.length : Int) then ((nat_short.f k t141 (rd y136 0)).bind fun bt145 => ((nat_right.f k bt145.2).bind fun t147 => (if 0 ≤ t147 then (if t147 ≤ (t141.length : Int) then ((nat_Of.f k (IntKind.u64.wrap (bt145.1))).bind fun t151 => (some ((bt145.2.take (t147 : Int).toNat), t151, 0))) else (none)) else (none)))) else (none))) else ((nat_right.f k l0).bind fun t154 => (if 0 ≤ t154 then (if t154 ≤ (l0.length : Int) then ((nat_long.f k (l0.take (t154 : Int).toNat) y136).bind fun bt160 => (some (bt160.1, bt160.2, 0))) else (none)) else (none))))) else (none)) else (none))))))))) = some (r1, r2, r3) := by first | (rw [hy126]; with_reducible exact H) | (have H2_ := (Option.bind_some _ _).symm.trans H; rw [hy126]; with_reducible exact H2_) | (have H2_ := (Option.bind_some _ _).symm.trans H; with_reducible exact H2_) | with_reducible exact H | (rw [hy126]; exact H) | exact H
  have Ny126 := Aside0.mk hy126
  clear hy126
  replace H := Option.bind_eq_some_iff.mp H
  obtain ⟨t129, A30, H⟩ := H
  replace H : (if t129 = true then (some (([] : List Int), ([] : List Int), 2)) else ((nat_right.f k l1).bind fun t130 => (if t130 = 0 then (some (([] : List Int), ([] : List Int), 10)) else ((nat_Cmp.f k l0 l1).bind fun t131 => (if t131 < 0 then ((nat_Trim.f k l0).bind fun t132 => (some (([] : List Int), t132, 0))) else ((nat_right.f k l1).bind fun t135 => (if 0 ≤ t135 then (if t135 ≤ (l1.length : Int) then ((some (l1.take (t135 : Int).toNat : List Int)).bind fun y136 => (if (y136.length : Int) = 1 then ((nat_Trim.f k l0).bind fun t141 => (if 0 < (y136.length : Int) then ((nat_short.f k t141 (rd y136 0)).bind fun bt145 => ((nat_right.f k bt145.2).bind fun t147 => (if 0 ≤ t147 then (if t147 ≤ (t141.length : Int) then ((nat_Of.f k (IntKind.u64.wrap (bt145.1))).bind fun t151 => (some ((bt145.2.take (t147 : Int).toNat), t151, 0))) else (none)) else (none)))) else (none))) else ((nat_right.f k l0).bind fun t154 => (if 0 ≤ t154 then (if t154 ≤ (l0.length : Int) then ((nat_long.f k (l0.take (t154 : Int).toNat) y136).bind fun bt160 => (some (bt160.1, bt160.2, 0))) else (none)) else (none))))) else (none)) else (none)))))))) = some (r1, r2, r3) := H
  have A3 := Aside0.mk A30
  clear A30
  by_cases c4 : t129 = true
  · subst c4
    have H1 : (some (([] : List Int), ([] : List Int), 2)) = some (r1, r2, r3) := by rw [if_pos rfl] at H; exact H
    clear H
    have H := H1
    clear H1
    simp only [Option.some.injEq, Prod.mk.injEq] at H
    obtain ⟨rfl, rfl, rfl⟩ := H
    go_enter Tryd.func13, Tryd.ntmps13
    go_wp2_with (first | ((with_reducible refine gate_dst (N := 14) rfl ?_); refine Kd.N_lit (Kd.slice 43 (Kd.int .u32)) _ 24 ?hg (N' := 14) ?hd (xs := ([l0, l1] : List (List Int))) (inner := [.slice A0 l0.length c0, .slice A1 l1.length c1]) (ok := (fun k_ => ((P0_ k_ ∨ P1_ k_) ∨ w.heap.size ≤ k_))) (okp := (fun k_ => ((P0_ k_ ∨ P1_ k_) ∨ w.heap.size ≤ k_))) ?hr ?hp (fun _ hk => hk) ((show ∀ k_, w.heap.size ≤ k_ → (fun k_ => ((P0_ k_ ∨ P1_ k_) ∨ w.heap.size ≤ k_)) k_ from fun k_ hk => (.inr (Nat.le_trans (below_size bl_) hk))) _ (Nat.le_refl _)) (Below.refl _ _) (Nat.le_refl _) (by simp) ?_; (case hd => rfl); (case hg => rfl); (case hr => first | (go_simp; done) | (go_simp; rfl)); (case hp => exact (Reps.one (show Kd.FK (Kd.slice 43 (Kd.int .u32)) _ _ l0 [.slice A0 l0.length c0] from (Kd.FK_slice_mk (Kd.V_reads' (Kd.V_mono (ok' := (fun k_ => ((P0_ k_ ∨ P1_ k_) ∨ w.heap.size ≤ k_))) (HO0.out) (fun k_ hk => hk))).2.1 (Kd.V_F (Kd.V_mono (ok' := (fun k_ => ((P0_ k_ ∨ P1_ k_) ∨ w.heap.size ≤ k_))) (HO0.out) (fun k_ hk => hk))))) (Reps.one (show Kd.FK (Kd.slice 43 (Kd.int .u32)) _ _ l1 [.slice A1 l1.length c1] from (Kd.FK_slice_mk (Kd.V_reads' (Kd.V_mono (ok' := (fun k_ => ((P0_ k_ ∨ P1_ k_) ∨ w.heap.size ≤ k_))) (HO1.out) (fun k_ hk => hk))).2.1 (Kd.V_F (Kd.V_mono (ok' := (fun k_ => ((P0_ k_ ∨ P1_ k_) ∨ w.heap.size ≤ k_))) (HO1.out) (fun k_ hk => hk))))) (Reps.none _ _)))); intro v127 w5 ho6 hb hg_ hnew_; clear hg_ hnew_; (first | rw [← Ny126.out] at ho6 | (simp only [Int.reduceToNat] at ho6; rw [← Ny126.out] at ho6)); replace HO0 := Aside0.mk (Kd.V_elder' (va_ HO0.out) (Kd.N_base ho6) hb); replace HO1 := Aside0.mk (Kd.V_elder' (va_ HO1.out) (Kd.N_base ho6) hb); have HO128 := Aside0.mk (Kd.N_lower ho6 (below_size bl_)); replace HB := Aside0.mk (below_step bl_ hb); clear hb ho6; obtain ⟨Ao7, co7, eo7⟩ := Kd.N_slice HO128.out; subst eo7) | ((with_reducible refine gate_callee (f := 24) rfl ?_); refine goesL_ (some 15) rfl rfl Tryd.func24 (by kernel_rfl) rfl #[.slice Ao7 y126.length co7] rfl am_ ?_; (with_reducible refine (nat_over.calls k _ _ y126 true _ ?side1 ?side2 A3.out).mono ?_); (case side1 => exact ca_ (Kd.N_reads' HO128.out).2.2); (case side2 => exact (Kd.N_reads' HO128.out).2.1); rintro e w' ⟨rfl, ⟨nd, rfl⟩⟩; refine ⟨_, rfl, ?_⟩))
    go_ret3
    exact ⟨_, _, by first | rfl | (simp [errW_none, errW_some] <;> rfl) | (simp [*, errW_none, errW_some] <;> rfl), by first | exact Kd.R_nil _ _ _ _ _ | exact Kd.N_nil _ _ _ _ _ | exact Kd.V_nil _ _ _ _ _ | exact Kd.Q_nil _ _ _ _ _ | exact Kd.S_nil _ _ _ _ _, by first | exact Kd.R_nil _ _ _ _ _ | exact Kd.N_nil _ _ _ _ _ | exact Kd.V_nil _ _ _ _ _ | exact Kd.Q_nil _ _ _ _ _ | exact Kd.S_nil _ _ _ _ _, by repeat (first | (with_reducible first | exact HB.out | apply below_alloc | apply pw_below_drewN | apply below_drew1) | exact HB.out)⟩
  · replace c4 := Bool.eq_false_iff.mpr c4
    subst c4
    have H1 : ((nat_right.f k l1).bind fun t130 => (if t130 = 0 then (some (([] : List Int), ([] : List Int), 10)) else ((nat_Cmp.f k l0 l1).bind fun t131 => (if t131 < 0 then ((nat_Trim.f k l0).bind fun t132 => (some (([] : List Int), t132, 0))) else ((nat_right.f k l1).bind fun t135 => (if 0 ≤ t135 then (if t135 ≤ (l1.length : Int) then ((some (l1.take (t135 : Int).toNat : List Int)).bind fun y136 => (if (y136.length : Int) = 1 then ((nat_Trim.f k l0).bind fun t141 => (if 0 < (y136.length : Int) then ((nat_short.f k t141 (rd y136 0)).bind fun bt145 => ((nat_right.f k bt145.2).bind fun t147 => (if 0 ≤ t147 then (if t147 ≤ (t141.length : Int) then ((nat_Of.f k (IntKind.u64.wrap (bt145.1))).bind fun t151 => (some ((bt145.2.take (t147 : Int).toNat), t151, 0))) else (none)) else (none)))) else (none))) else ((nat_right.f k l0).bind fun t154 => (if 0 ≤ t154 then (if t154 ≤ (l0.length : Int) then ((nat_long.f k (l0.take (t154 : Int).toNat) y136).bind fun bt160 => (some (bt160.1, bt160.2, 0))) else (none)) else (none))))) else (none)) else (none))))))) = some (r1, r2, r3) := by rw [if_neg (show ¬ (false = true) by decide)] at H; exact H
    clear H
    have H := H1
    clear H1
    replace H := Option.bind_eq_some_iff.mp H
    obtain ⟨t130, A80, H⟩ := H
    replace H : (if t130 = 0 then (some (([] : List Int), ([] : List Int), 10)) else ((nat_Cmp.f k l0 l1).bind fun t131 => (if t131 < 0 then ((nat_Trim.f k l0).bind fun t132 => (some (([] : List Int), t132, 0))) else ((nat_right.f k l1).bind fun t135 => (if 0 ≤ t135 then (if t135 ≤ (l1.length : Int) then ((some (l1.take (t135 : Int).toNat : List Int)).bind fun y136 => (if (y136.length : Int) = 1 then ((nat_Trim.f k l0).bind fun t141 => (if 0 < (y136.length : Int) then ((nat_short.f k t141 (rd y136 0)).bind fun bt145 => ((nat_right.f k bt145.2).bind fun t147 => (if 0 ≤ t147 then (if t147 ≤ (t141.length : Int) then ((nat_Of.f k (IntKind.u64.wrap (bt145.1))).bind fun t151 => (some ((bt145.2.take (t147 : Int).toNat), t151, 0))) else (none)) else (none)))) else (none))) else ((nat_right.f k l0).bind fun t154 => (if 0 ≤ t154 then (if t154 ≤ (l0.length : Int) then ((nat_long.f k (l0.take (t154 : Int).toNat) y136).bind fun bt160 => (some (bt160.1, bt160.2, 0))) else (none)) else (none))))) else (none)) else (none)))))) = some (r1, r2, r3) := H
    have A8 := Aside0.mk A80
    clear A80
    by_cases c9 : t130 = 0
    · rw [if_pos c9] at H
      have c9b0 : (t130 == 0) = true := beq_iff_eq.mpr c9
      have c9b1 : (t130 != 0) = false := bne_eq_false_iff_eq.mpr c9
      clear c9
      simp only [Option.some.injEq, Prod.mk.injEq] at H
      obtain ⟨rfl, rfl, rfl⟩ := H
      go_enter Tryd.func13, Tryd.ntmps13
      go_wp2_with (first | ((with_reducible refine gate_dst (N := 14) rfl ?_); refine Kd.N_lit (Kd.slice 43 (Kd.int .u32)) _ 24 ?hg (N' := 14) ?hd (xs := ([l0, l1] : List (List Int))) (inner := [.slice A0 l0.length c0, .slice A1 l1.length c1]) (ok := (fun k_ => ((P0_ k_ ∨ P1_ k_) ∨ w.heap.size ≤ k_))) (okp := (fun k_ => ((P0_ k_ ∨ P1_ k_) ∨ w.heap.size ≤ k_))) ?hr ?hp (fun _ hk => hk) ((show ∀ k_, w.heap.size ≤ k_ → (fun k_ => ((P0_ k_ ∨ P1_ k_) ∨ w.heap.size ≤ k_)) k_ from fun k_ hk => (.inr (Nat.le_trans (below_size bl_) hk))) _ (Nat.le_refl _)) (Below.refl _ _) (Nat.le_refl _) (by simp) ?_; (case hd => rfl); (case hg => rfl); (case hr => first | (go_simp; done) | (go_simp; rfl)); (case hp => exact (Reps.one (show Kd.FK (Kd.slice 43 (Kd.int .u32)) _ _ l0 [.slice A0 l0.length c0] from (Kd.FK_slice_mk (Kd.V_reads' (Kd.V_mono (ok' := (fun k_ => ((P0_ k_ ∨ P1_ k_) ∨ w.heap.size ≤ k_))) (HO0.out) (fun k_ hk => hk))).2.1 (Kd.V_F (Kd.V_mono (ok' := (fun k_ => ((P0_ k_ ∨ P1_ k_) ∨ w.heap.size ≤ k_))) (HO0.out) (fun k_ hk => hk))))) (Reps.one (show Kd.FK (Kd.slice 43 (Kd.int .u32)) _ _ l1 [.slice A1 l1.length c1] from (Kd.FK_slice_mk (Kd.V_reads' (Kd.V_mono (ok' := (fun k_ => ((P0_ k_ ∨ P1_ k_) ∨ w.heap.size ≤ k_))) (HO1.out) (fun k_ hk => hk))).2.1 (Kd.V_F (Kd.V_mono (ok' := (fun k_ => ((P0_ k_ ∨ P1_ k_) ∨ w.heap.size ≤ k_))) (HO1.out) (fun k_ hk => hk))))) (Reps.none _ _)))); intro v127 w10 ho11 hb hg_ hnew_; clear hg_ hnew_; (first | rw [← Ny126.out] at ho11 | (simp only [Int.reduceToNat] at ho11; rw [← Ny126.out] at ho11)); replace HO0 := Aside0.mk (Kd.V_elder' (va_ HO0.out) (Kd.N_base ho11) hb); replace HO1 := Aside0.mk (Kd.V_elder' (va_ HO1.out) (Kd.N_base ho11) hb); have HO128 := Aside0.mk (Kd.N_lower ho11 (below_size bl_)); replace HB := Aside0.mk (below_step bl_ hb); clear hb ho11; obtain ⟨Ao12, co12, eo12⟩ := Kd.N_slice HO128.out; subst eo12) | ((with_reducible refine gate_callee (f := 24) rfl ?_); refine goesL_ (some 15) rfl rfl Tryd.func24 (by kernel_rfl) rfl #[.slice Ao12 y126.length co12] rfl am_ ?_; (with_reducible refine (nat_over.calls k _ _ y126 false _ ?side1 ?side2 A3.out).mono ?_); (case side1 => exact ca_ (Kd.N_reads' HO128.out).2.2); (case side2 => exact (Kd.N_reads' HO128.out).2.1); rintro e w' ⟨rfl, ⟨nd, rfl⟩⟩; refine ⟨_, rfl, ?_⟩) | ((with_reducible refine gate_callee (f := 29) rfl ?_); refine goesL_ (some 18) rfl rfl Tryd.func29 (by kernel_rfl) rfl #[.slice A1 l1.length c1] rfl am_ ?_; (with_reducible refine (nat_right.calls k _ _ l1 t130 _ ?side1 ?side2 A8.out).mono ?_); (case side1 => exact ca_ (Kd.V_reads' HO1.out).2.2); (case side2 => exact (Kd.V_reads' HO1.out).2.1); rintro e w' ⟨rfl, ⟨nd, rfl⟩⟩; refine ⟨_, rfl, ?_⟩))
      go_ret3
      exact ⟨_, _, by first | rfl | (simp [errW_none, errW_some] <;> rfl) | (simp [*, errW_none, errW_some] <;> rfl), by first | exact Kd.R_nil _ _ _ _ _ | exact Kd.N_nil _ _ _ _ _ | exact Kd.V_nil _ _ _ _ _ | exact Kd.Q_nil _ _ _ _ _ | exact Kd.S_nil _ _ _ _ _, by first | exact Kd.R_nil _ _ _ _ _ | exact Kd.N_nil _ _ _ _ _ | exact Kd.V_nil _ _ _ _ _ | exact Kd.Q_nil _ _ _ _ _ | exact Kd.S_nil _ _ _ _ _, by repeat (first | (with_reducible first | exact HB.out | apply below_alloc | apply pw_below_drewN | apply below_drew1) | exact HB.out)⟩
    · rw [if_neg c9] at H
      have c9b0 : (t130 == 0) = false := beq_eq_false_iff_ne.mpr c9
      have c9b1 : (t130 != 0) = true := bne_iff_ne.mpr c9
      replace H := Option.bind_eq_some_iff.mp H
      obtain ⟨t131, A130, H⟩ := H
      replace H : (if t131 < 0 then ((nat_Trim.f k l0).bind fun t132 => (some (([] : List Int), t132, 0))) else ((nat_right.f k l1).bind fun t135 => (if 0 ≤ t135 then (if t135 ≤ (l1.length : Int) then ((some (l1.take (t135 : Int).toNat : List Int)).bind fun y136 => (if (y136.length : Int) = 1 then ((nat_Trim.f k l0).bind fun t141 => (if 0 < (y136.length : Int) then ((nat_short.f k t141 (rd y136 0)).bind fun bt145 => ((nat_right.f k bt145.2).bind fun t147 => (if 0 ≤ t147 then (if t147 ≤ (t141.length : Int) then ((nat_Of.f k (IntKind.u64.wrap (bt145.1))).bind fun t151 => (some ((bt145.2.take (t147 : Int).toNat), t151, 0))) else (none)) else (none)))) else (none))) else ((nat_right.f k l0).bind fun t154 => (if 0 ≤ t154 then (if t154 ≤ (l0.length : Int) then ((nat_long.f k (l0.take (t154 : Int).toNat) y136).bind fun bt160 => (some (bt160.1, bt160.2, 0))) else (none)) else (none))))) else (none)) else (none)))) = some (r1, r2, r3) := H
      have A13 := Aside0.mk A130
      clear A130
      by_cases c14 : t131 < 0
      · rw [if_pos c14] at H
        have c14b0 : decide (t131 < 0) = true := decide_eq_true c14
        clear c14
        replace H := Option.bind_eq_some_iff.mp H
        obtain ⟨t132, A150, H⟩ := H
        replace H : (some (([] : List Int), t132, 0)) = some (r1, r2, r3) := H
        have A15 := Aside0.mk A150
        clear A150
        simp only [Option.some.injEq, Prod.mk.injEq] at H
        obtain ⟨rfl, rfl, rfl⟩ := H
        go_enter Tryd.func13, Tryd.ntmps13
        go_wp2_with (first | ((with_reducible refine gate_dst (N := 14) rfl ?_); refine Kd.N_lit (Kd.slice 43 (Kd.int .u32)) _ 24 ?hg (N' := 14) ?hd (xs := ([l0, l1] : List (List Int))) (inner := [.slice A0 l0.length c0, .slice A1 l1.length c1]) (ok := (fun k_ => ((P0_ k_ ∨ P1_ k_) ∨ w.heap.size ≤ k_))) (okp := (fun k_ => ((P0_ k_ ∨ P1_ k_) ∨ w.heap.size ≤ k_))) ?hr ?hp (fun _ hk => hk) ((show ∀ k_, w.heap.size ≤ k_ → (fun k_ => ((P0_ k_ ∨ P1_ k_) ∨ w.heap.size ≤ k_)) k_ from fun k_ hk => (.inr (Nat.le_trans (below_size bl_) hk))) _ (Nat.le_refl _)) (Below.refl _ _) (Nat.le_refl _) (by simp) ?_; (case hd => rfl); (case hg => rfl); (case hr => first | (go_simp; done) | (go_simp; rfl)); (case hp => exact (Reps.one (show Kd.FK (Kd.slice 43 (Kd.int .u32)) _ _ l0 [.slice A0 l0.length c0] from (Kd.FK_slice_mk (Kd.V_reads' (Kd.V_mono (ok' := (fun k_ => ((P0_ k_ ∨ P1_ k_) ∨ w.heap.size ≤ k_))) (HO0.out) (fun k_ hk => hk))).2.1 (Kd.V_F (Kd.V_mono (ok' := (fun k_ => ((P0_ k_ ∨ P1_ k_) ∨ w.heap.size ≤ k_))) (HO0.out) (fun k_ hk => hk))))) (Reps.one (show Kd.FK (Kd.slice 43 (Kd.int .u32)) _ _ l1 [.slice A1 l1.length c1] from (Kd.FK_slice_mk (Kd.V_reads' (Kd.V_mono (ok' := (fun k_ => ((P0_ k_ ∨ P1_ k_) ∨ w.heap.size ≤ k_))) (HO1.out) (fun k_ hk => hk))).2.1 (Kd.V_F (Kd.V_mono (ok' := (fun k_ => ((P0_ k_ ∨ P1_ k_) ∨ w.heap.size ≤ k_))) (HO1.out) (fun k_ hk => hk))))) (Reps.none _ _)))); intro v127 w16 ho17 hb hg_ hnew_; clear hg_ hnew_; (first | rw [← Ny126.out] at ho17 | (simp only [Int.reduceToNat] at ho17; rw [← Ny126.out] at ho17)); replace HO0 := Aside0.mk (Kd.V_elder' (va_ HO0.out) (Kd.N_base ho17) hb); replace HO1 := Aside0.mk (Kd.V_elder' (va_ HO1.out) (Kd.N_base ho17) hb); have HO128 := Aside0.mk (Kd.N_lower ho17 (below_size bl_)); replace HB := Aside0.mk (below_step bl_ hb); clear hb ho17; obtain ⟨Ao18, co18, eo18⟩ := Kd.N_slice HO128.out; subst eo18) | ((with_reducible refine gate_callee (f := 24) rfl ?_); refine goesL_ (some 15) rfl rfl Tryd.func24 (by kernel_rfl) rfl #[.slice Ao18 y126.length co18] rfl am_ ?_; (with_reducible refine (nat_over.calls k _ _ y126 false _ ?side1 ?side2 A3.out).mono ?_); (case side1 => exact ca_ (Kd.N_reads' HO128.out).2.2); (case side2 => exact (Kd.N_reads' HO128.out).2.1); rintro e w' ⟨rfl, ⟨nd, rfl⟩⟩; refine ⟨_, rfl, ?_⟩) | ((with_reducible refine gate_callee (f := 29) rfl ?_); refine goesL_ (some 18) rfl rfl Tryd.func29 (by kernel_rfl) rfl #[.slice A1 l1.length c1] rfl am_ ?_; (with_reducible refine (nat_right.calls k _ _ l1 t130 _ ?side1 ?side2 A8.out).mono ?_); (case side1 => exact ca_ (Kd.V_reads' HO1.out).2.2); (case side2 => exact (Kd.V_reads' HO1.out).2.1); rintro e w' ⟨rfl, ⟨nd, rfl⟩⟩; refine ⟨_, rfl, ?_⟩) | ((with_reducible refine gate_callee (f := 15) rfl ?_); refine goesL_ (some 23) rfl rfl Tryd.func15 (by kernel_rfl) rfl #[.slice A0 l0.length c0, .slice A1 l1.length c1] rfl am_ ?_; (with_reducible refine (nat_Cmp.calls k _ _ l0 _ _ l1 t131 _ ?side1 ?side2 ?side3 ?side4 A13.out).mono ?_); (case side1 => exact ca_ (Kd.V_reads' HO0.out).2.2); (case side2 => exact (Kd.V_reads' HO0.out).2.1); (case side3 => exact ca_ (Kd.V_reads' HO1.out).2.2); (case side4 => exact (Kd.V_reads' HO1.out).2.1); rintro e w' ⟨rfl, ⟨nd, rfl⟩⟩; refine ⟨_, rfl, ?_⟩) | ((with_reducible refine gate_callee (f := 11) rfl ?_); refine goesL_ (some 26) rfl rfl Tryd.func11 (by kernel_rfl) rfl #[.slice A0 l0.length c0] rfl am_ ?_; (with_reducible refine (nat_Trim.calls k _ _ l0 t132 _ ?side1 ?side2 A15.out).mono ?_); (case side1 => exact ca_ (Kd.V_reads' HO0.out).2.2); (case side2 => exact (Kd.V_reads' HO0.out).2.1); rintro e w19 ⟨v133, rfl, ho0, hb⟩; refine ⟨_, rfl, ?_⟩; replace HO0 := Aside0.mk (Kd.V_elder' (va_ HO0.out) (Kd.R_base ho0) hb); replace HO1 := Aside0.mk (Kd.V_elder' (va_ HO1.out) (Kd.R_base ho0) hb); replace HO128 := Aside0.mk (Kd.N_elder' (by (with_reducible repeat (first | apply Kd.N_alloc | apply Kd.N_drewN | apply Kd.N_drew)); exact HO128.out) (Kd.R_base ho0) hb); have HO134 := Aside0.mk (Kd.R_lower (Kd.R_newM (M := fun k_ => (w.heap.size ≤ k_)) ho0 (below_size bl_) (fun k_ h_ => h_)) (below_size bl_)); replace HB := Aside0.mk (below_step bl_ hb); (try clear hb); (try clear hb2); (try clear hk); (try clear hi); (try clear ho0)))
        go_ret3
        exact ⟨_, _, by first | rfl | (simp [errW_none, errW_some] <;> rfl) | (simp [*, errW_none, errW_some] <;> rfl), by first | exact Kd.R_nil _ _ _ _ _ | exact Kd.N_nil _ _ _ _ _ | exact Kd.V_nil _ _ _ _ _ | exact Kd.Q_nil _ _ _ _ _ | exact Kd.S_nil _ _ _ _ _, by (with_reducible repeat (first | apply Kd.R_alloc | apply Kd.R_drewN | apply Kd.R_drew)); exact Kd.R_mono HO134.out (fun _ hk => ⟨hk.1, (by simp [Value.ownBlock])⟩), by repeat (first | (with_reducible first | exact HB.out | apply below_alloc | apply pw_below_drewN | apply below_drew1) | exact HB.out)⟩
      · rw [if_neg c14] at H
        have c14b0 : decide (t131 < 0) = false := decide_eq_false c14
        clear c14
        replace H := Option.bind_eq_some_iff.mp H
        obtain ⟨t135, A200, H⟩ := H
        replace H : (if 0 ≤ t135 then (if t135 ≤ (l1.length : Int) then ((some (l1.take (t135 : Int).toNat : List Int)).bind fun y136 => (if (y136.length : Int) = 1 then ((nat_Trim.f k l0).bind fun t141 => (if 0 < (y136.length : Int) then ((nat_short.f k t141 (rd y136 0)).bind fun bt145 => ((nat_right.f k bt145.2).bind fun t147 => (if 0 ≤ t147 then (if t147 ≤ (t141.length : Int) then ((nat_Of.f k (IntKind.u64.wrap (bt145.1))).bind fun t151 => (some ((bt145.2.take (t147 : Int).toNat), t151, 0))) else (none)) else (none)))) else (none))) else ((nat_right.f k l0).bind fun t154 => (if 0 ≤ t154 then (if t154 ≤ (l0.length : Int) then ((nat_long.f k (l0.take (t154 : Int).toNat) y136).bind fun bt160 => (some (bt160.1, bt160.2, 0))) else (none)) else (none))))) else (none)) else (none)) = some (r1, r2, r3) := H
        have A20 := Aside0.mk A200
        clear A200
        by_cases c21 : 0 ≤ t135
        · rw [if_pos c21] at H
          have c21b0 := eq_true c21
          have c21b1 : decide (0 ≤ t135) = true := decide_eq_true c21
          clear c21
          by_cases c22 : t135 ≤ (l1.length : Int)
          · rw [if_pos c22] at H
            have c22b0 := eq_true c22
            have c22b1 : decide (t135 ≤ (l1.length : Int)) = true := decide_eq_true c22
            clear c22
            obtain ⟨y136, hy136⟩ : ∃ y_ : List Int, y_ = (l1.take (t135 : Int).toNat) := ⟨_, rfl⟩
            replace H : (if (y136.length : Int) = 1 then ((nat_Trim.f k l0).bind fun t141 => (if 0 < (y136.length : Int) then ((nat_short.f k t141 (rd y136 0)).bind fun bt145 => ((nat_right.f k bt145.2).bind fun t147 => (if 0 ≤ t147 then (if t147 ≤ (t141.length : Int) then ((nat_Of.f k (IntKind.u64.wrap (bt145.1))).bind fun t151 => (some ((bt145.2.take (t147 : Int).toNat), t151, 0))) else (none)) else (none)))) else (none))) else ((nat_right.f k l0).bind fun t154 => (if 0 ≤ t154 then (if t154 ≤ (l0.length : Int) then ((nat_long.f k (l0.take (t154 : Int).toNat) y136).bind fun bt160 => (some (bt160.1, bt160.2, 0))) else (none)) else (none)))) = some (r1, r2, r3) := by first | (rw [hy136]; with_reducible exact H) | (have H2_ := (Option.bind_some _ _).symm.trans H; rw [hy136]; with_reducible exact H2_) | (have H2_ := (Option.bind_some _ _).symm.trans H; with_reducible exact H2_) | with_reducible exact H | (rw [hy136]; exact H) | exact H
            have Ny136 := Aside0.mk hy136
            clear hy136
            by_cases c23 : (y136.length : Int) = 1
            · rw [if_pos c23] at H
              have c23b0 : ((y136.length : Int) == 1) = true := beq_iff_eq.mpr c23
              have c23b1 : ((y136.length : Int) != 1) = false := bne_eq_false_iff_eq.mpr c23
              clear c23
              replace H := Option.bind_eq_some_iff.mp H
              obtain ⟨t141, A240, H⟩ := H
              replace H : (if 0 < (y136.length : Int) then ((nat_short.f k t141 (rd y136 0)).bind fun bt145 => ((nat_right.f k bt145.2).bind fun t147 => (if 0 ≤ t147 then (if t147 ≤ (t141.length : Int) then ((nat_Of.f k (IntKind.u64.wrap (bt145.1))).bind fun t151 => (some ((bt145.2.take (t147 : Int).toNat), t151, 0))) else (none)) else (none)))) else (none)) = some (r1, r2, r3) := H
              have A24 := Aside0.mk A240
              clear A240
              by_cases c25 : 0 < (y136.length : Int)
              · rw [if_pos c25] at H
                have c25b0 : decide (0 < (y136.length : Int)) = true := decide_eq_true c25
                have c25b1 : decide (0 < y136.length) = true := decide_eq_true (by omega)
                clear c25
                replace H := Option.bind_eq_some_iff.mp H
                obtain ⟨⟨t145, t146⟩, A260, H⟩ := H
                replace H : ((nat_right.f k t146).bind fun t147 => (if 0 ≤ t147 then (if t147 ≤ (t141.length : Int) then ((nat_Of.f k (IntKind.u64.wrap (t145))).bind fun t151 => (some ((t146.take (t147 : Int).toNat), t151, 0))) else (none)) else (none))) = some (r1, r2, r3) := H
                have A26 := Aside0.mk A260
                clear A260
                replace H := Option.bind_eq_some_iff.mp H
                obtain ⟨t147, A270, H⟩ := H
                replace H : (if 0 ≤ t147 then (if t147 ≤ (t141.length : Int) then ((nat_Of.f k (IntKind.u64.wrap (t145))).bind fun t151 => (some ((t146.take (t147 : Int).toNat), t151, 0))) else (none)) else (none)) = some (r1, r2, r3) := H
                have A27 := Aside0.mk A270
                clear A270
                by_cases c28 : 0 ≤ t147
                · rw [if_pos c28] at H
                  have c28b0 := eq_true c28
                  have c28b1 : decide (0 ≤ t147) = true := decide_eq_true c28
                  clear c28
                  by_cases c29 : t147 ≤ (t141.length : Int)
                  · rw [if_pos c29] at H
                    have c29b0 := eq_true c29
                    have c29b1 : decide (t147 ≤ (t141.length : Int)) = true := decide_eq_true c29
                    clear c29
                    obtain ⟨y148, hy148⟩ : ∃ y_ : List Int, y_ = (t146.take (t147 : Int).toNat) := ⟨_, rfl⟩
                    replace H : ((nat_Of.f k (IntKind.u64.wrap (t145))).bind fun t151 => (some (y148, t151, 0))) = some (r1, r2, r3) := by first | (rw [hy148]; with_reducible exact H) | (have H2_ := (Option.bind_some _ _).symm.trans H; rw [hy148]; with_reducible exact H2_) | (have H2_ := (Option.bind_some _ _).symm.trans H; with_reducible exact H2_) | with_reducible exact H | (rw [hy148]; exact H) | exact H
                    have Ny148 := Aside0.mk hy148
                    clear hy148
                    replace H := Option.bind_eq_some_iff.mp H
                    obtain ⟨t151, A300, H⟩ := H
                    replace H : (some (y148, t151, 0)) = some (r1, r2, r3) := H
                    have A30 := Aside0.mk A300
                    clear A300
                    simp only [Option.some.injEq, Prod.mk.injEq] at H
                    obtain ⟨rfl, rfl, rfl⟩ := H
                    go_enter Tryd.func13, Tryd.ntmps13
                    go_wp2_with (first | ((with_reducible refine gate_dst (N := 14) rfl ?_); refine Kd.N_lit (Kd.slice 43 (Kd.int .u32)) _ 24 ?hg (N' := 14) ?hd (xs := ([l0, l1] : List (List Int))) (inner := [.slice A0 l0.length c0, .slice A1 l1.length c1]) (ok := (fun k_ => ((P0_ k_ ∨ P1_ k_) ∨ w.heap.size ≤ k_))) (okp := (fun k_ => ((P0_ k_ ∨ P1_ k_) ∨ w.heap.size ≤ k_))) ?hr ?hp (fun _ hk => hk) ((show ∀ k_, w.heap.size ≤ k_ → (fun k_ => ((P0_ k_ ∨ P1_ k_) ∨ w.heap.size ≤ k_)) k_ from fun k_ hk => (.inr (Nat.le_trans (below_size bl_) hk))) _ (Nat.le_refl _)) (Below.refl _ _) (Nat.le_refl _) (by simp) ?_; (case hd => rfl); (case hg => rfl); (case hr => first | (go_simp; done) | (go_simp; rfl)); (case hp => exact (Reps.one (show Kd.FK (Kd.slice 43 (Kd.int .u32)) _ _ l0 [.slice A0 l0.length c0] from (Kd.FK_slice_mk (Kd.V_reads' (Kd.V_mono (ok' := (fun k_ => ((P0_ k_ ∨ P1_ k_) ∨ w.heap.size ≤ k_))) (HO0.out) (fun k_ hk => hk))).2.1 (Kd.V_F (Kd.V_mono (ok' := (fun k_ => ((P0_ k_ ∨ P1_ k_) ∨ w.heap.size ≤ k_))) (HO0.out) (fun k_ hk => hk))))) (Reps.one (show Kd.FK (Kd.slice 43 (Kd.int .u32)) _ _ l1 [.slice A1 l1.length c1] from (Kd.FK_slice_mk (Kd.V_reads' (Kd.V_mono (ok' := (fun k_ => ((P0_ k_ ∨ P1_ k_) ∨ w.heap.size ≤ k_))) (HO1.out) (fun k_ hk => hk))).2.1 (Kd.V_F (Kd.V_mono (ok' := (fun k_ => ((P0_ k_ ∨ P1_ k_) ∨ w.heap.size ≤ k_))) (HO1.out) (fun k_ hk => hk))))) (Reps.none _ _)))); intro v127 w31 ho32 hb hg_ hnew_; clear hg_ hnew_; (first | rw [← Ny126.out] at ho32 | (simp only [Int.reduceToNat] at ho32; rw [← Ny126.out] at ho32)); replace HO0 := Aside0.mk (Kd.V_elder' (va_ HO0.out) (Kd.N_base ho32) hb); replace HO1 := Aside0.mk (Kd.V_elder' (va_ HO1.out) (Kd.N_base ho32) hb); have HO128 := Aside0.mk (Kd.N_lower ho32 (below_size bl_)); replace HB := Aside0.mk (below_step bl_ hb); clear hb ho32; obtain ⟨Ao33, co33, eo33⟩ := Kd.N_slice HO128.out; subst eo33) | ((with_reducible refine gate_callee (f := 24) rfl ?_); refine goesL_ (some 15) rfl rfl Tryd.func24 (by kernel_rfl) rfl #[.slice Ao33 y126.length co33] rfl am_ ?_; (with_reducible refine (nat_over.calls k _ _ y126 false _ ?side1 ?side2 A3.out).mono ?_); (case side1 => exact ca_ (Kd.N_reads' HO128.out).2.2); (case side2 => exact (Kd.N_reads' HO128.out).2.1); rintro e w' ⟨rfl, ⟨nd, rfl⟩⟩; refine ⟨_, rfl, ?_⟩) | ((with_reducible refine gate_callee (f := 29) rfl ?_); refine goesL_ (some 18) rfl rfl Tryd.func29 (by kernel_rfl) rfl #[.slice A1 l1.length c1] rfl am_ ?_; (with_reducible refine (nat_right.calls k _ _ l1 t130 _ ?side1 ?side2 A8.out).mono ?_); (case side1 => exact ca_ (Kd.V_reads' HO1.out).2.2); (case side2 => exact (Kd.V_reads' HO1.out).2.1); rintro e w' ⟨rfl, ⟨nd, rfl⟩⟩; refine ⟨_, rfl, ?_⟩) | ((with_reducible refine gate_callee (f := 15) rfl ?_); refine goesL_ (some 23) rfl rfl Tryd.func15 (by kernel_rfl) rfl #[.slice A0 l0.length c0, .slice A1 l1.length c1] rfl am_ ?_; (with_reducible refine (nat_Cmp.calls k _ _ l0 _ _ l1 t131 _ ?side1 ?side2 ?side3 ?side4 A13.out).mono ?_); (case side1 => exact ca_ (Kd.V_reads' HO0.out).2.2); (case side2 => exact (Kd.V_reads' HO0.out).2.1); (case side3 => exact ca_ (Kd.V_reads' HO1.out).2.2); (case side4 => exact (Kd.V_reads' HO1.out).2.1); rintro e w' ⟨rfl, ⟨nd, rfl⟩⟩; refine ⟨_, rfl, ?_⟩) | ((with_reducible refine gate_callee (f := 25) rfl ?_); refine goesL_ (some 28) rfl rfl Tryd.func25 (by kernel_rfl) rfl #[.slice A1 l1.length c1] rfl am_ ?_; (with_reducible refine (nat_cut_read.calls (l' := y136) (hl' := Ny136.out) k _ _ l1 t135 _ ?side1 ?side2 A20.out).mono ?_); (case side1 => exact ca_ (Kd.V_reads' HO1.out).2.2); (case side2 => exact (Kd.V_reads' HO1.out).2.1); rintro e w' ⟨rfl, ⟨nd, rfl⟩⟩; refine ⟨_, rfl, ?_⟩; have q34 : (t135 : Int) ≤ ((l1.length : Int) : Int) := od_; obtain ⟨i034, hi034, _, hsz34, _⟩ := info_parts info43; have hroom34 : l1.length ≤ c1 := (Kd.V_reads' HO1.out).2.1; have hC34 : Kd.F (Kd.int .u32) _ _ A1 l1.length l1 := (Kd.V_at (base := w.heap.size) HO1.out).2.2; have hcut34 := cut_to (P := Tryd.prog) 24 43 .i64 Tryd.underlying24 hi034 A1 l1.length c1 t135 od_ q34 hroom34; have hr34 := Kd.F_take (m := (t135 : Int).toNat) hC34 (by omega); have hy34 : y136.length = (t135 : Int).toNat := (by rw [Ny136.out, List.length_take]; omega); rw [← Ny136.out] at hr34; rw [← hy34] at hcut34; have HO140 := Aside0.mk (show Kd.V (Kd.int .u32) 43 _ w.heap.size _ (.slice A1 y136.length c1) y136 from Kd.V_mk (by omega) hr34); have HC140 := Aside0.mk (show y136.length ≤ c1 from by omega); clear hr34 hC34 hroom34 hi034 hsz34; have KY34 := Aside0.mk hy34; clear hy34; replace q34 := eq_true q34) | ((with_reducible refine gate_callee (f := 11) rfl ?_); refine goesL_ (some 33) rfl rfl Tryd.func11 (by kernel_rfl) rfl #[.slice A0 l0.length c0] rfl am_ ?_; (with_reducible refine (nat_Trim.calls k _ _ l0 t141 _ ?side1 ?side2 A24.out).mono ?_); (case side1 => exact ca_ (Kd.V_reads' HO0.out).2.2); (case side2 => exact (Kd.V_reads' HO0.out).2.1); rintro e w35 ⟨v142, rfl, ho0, hb⟩; refine ⟨_, rfl, ?_⟩; replace HO0 := Aside0.mk (Kd.V_elder' (va_ HO0.out) (Kd.R_base ho0) hb); replace HO1 := Aside0.mk (Kd.V_elder' (va_ HO1.out) (Kd.R_base ho0) hb); replace HO128 := Aside0.mk (Kd.N_elder' (by (with_reducible repeat (first | apply Kd.N_alloc | apply Kd.N_drewN | apply Kd.N_drew)); exact HO128.out) (Kd.R_base ho0) hb); replace HO140 := Aside0.mk (Kd.V_elder' (va_ HO140.out) (Kd.R_base ho0) hb); have HO143 := Aside0.mk (Kd.R_lower (Kd.R_newM (M := fun k_ => (w.heap.size ≤ k_)) ho0 (below_size bl_) (fun k_ h_ => h_)) (below_size bl_)); replace HB := Aside0.mk (below_step bl_ hb); (try clear hb); (try clear hb2); (try clear hk); (try clear hi); (try clear ho0); have p144 : 0 ≤ (0 : Int) := (by omega); have q144 : 0 < (y136.length : Int) := od_; obtain ⟨ad144, e144, hx144_0⟩ := Kd.at_int (Kd.V_reads' HO140.out).2.2 0 p144 q144; cases e144; have qi144 : (0 < y136.length) = True := eq_true (by omega); (try rw [show ((0 : Int)).toNat = 0 from rfl] at hx144_0); (try rw [Addr.add_zero'] at hx144_0); replace p144 := eq_true p144; replace q144 := eq_true q144; obtain ⟨Ao36, co36, eo36⟩ := Kd.R_slice HO143.out; subst eo36) | ((with_reducible refine gate_callee (f := 30) rfl ?_); refine goesL_ (some 38) rfl rfl Tryd.func30 (by kernel_rfl) rfl #[.slice Ao36 t141.length co36, .int .u32 (rd y136 0)] rfl am_ ?_; (with_reducible refine (nat_short.calls k (fun k_ => some k_ = (.slice Ao36 t141.length co36 : Value).ownBlock) (.slice Ao36 t141.length co36) t141 (rd y136 0) t145 t146 w _ ?side1 ?side2 A26.out).mono ?_); (case side1 => repeat (first | (with_reducible first | exact HB.out | apply below_alloc | apply pw_below_drewN | apply below_drew1) | exact HB.out)); (case side2 => exact Kd.R_tight rfl HO143.out); rintro e w37 ⟨rfl, hy0, hb, hkp⟩; refine ⟨_, rfl, ?_⟩; replace HO0 := Aside0.mk (Kd.V_mono (ok' := fun k_ => ((P0_ k_ ∨ P1_ k_) ∨ w.heap.size ≤ k_) ∧ some k_ ≠ (.slice Ao33 y126.length co33 : Value).ownBlock ∧ some k_ ≠ (.slice Ao36 t141.length co36 : Value).ownBlock) (Kd.V_keptB (HO0.out) hkp (fun k_ hk_ hs_ => (hk_.2) hs_)) (fun k_ hk_ => ⟨hk_.1.1.1, hk_.1.1.2, hk_.1.2⟩)); replace HO1 := Aside0.mk (Kd.V_mono (ok' := fun k_ => ((P0_ k_ ∨ P1_ k_) ∨ w.heap.size ≤ k_) ∧ some k_ ≠ (.slice Ao33 y126.length co33 : Value).ownBlock ∧ some k_ ≠ (.slice Ao36 t141.length co36 : Value).ownBlock) (Kd.V_keptB (HO1.out) hkp (fun k_ hk_ hs_ => (hk_.2) hs_)) (fun k_ hk_ => ⟨hk_.1.1.1, hk_.1.1.2, hk_.1.2⟩)); replace HO128 := Aside0.mk (Kd.N_mono (ok' := fun k_ => ((P0_ k_ ∨ P1_ k_) ∨ w.heap.size ≤ k_) ∧ some k_ ≠ (.slice Ao36 t141.length co36 : Value).ownBlock) (Kd.N_keptB (HO128.out) hkp (fun k_ hk_ hs_ => (hk_.2) hs_)) (fun k_ hk_ => ⟨hk_.1.1, hk_.1.2⟩)); replace HO140 := Aside0.mk (Kd.V_mono (ok' := fun k_ => ((P0_ k_ ∨ P1_ k_) ∨ w.heap.size ≤ k_) ∧ some k_ ≠ (.slice Ao33 y126.length co33 : Value).ownBlock ∧ some k_ ≠ (.slice Ao36 t141.length co36 : Value).ownBlock) (Kd.V_keptB (HO140.out) hkp (fun k_ hk_ hs_ => (hk_.2) hs_)) (fun k_ hk_ => ⟨hk_.1.1.1, hk_.1.1.2, hk_.1.2⟩)); replace HO143 := Aside0.mk (Kd.R_reok rfl hy0 (fun k_ e_ => HO143.out.1 k_ e_)); replace HB := Aside0.mk (hb); (try clear hb); (try clear hkp); (try clear hy0)) | ((with_reducible refine gate_callee (f := 25) rfl ?_); refine goesL_ (some 40) rfl rfl Tryd.func25 (by kernel_rfl) rfl #[.slice Ao36 t146.length co36] rfl (by (try simp only [List.map_toArray, List.map_cons, List.map_nil]); first | done | (rw [show t146.length = t141.length from (Kd.R_reads' HO143.out).1.symm] <;> rfl) | rfl | (simp only [List.length_drop, List.length_take]; rfl)) ?_; (with_reducible refine (nat_cut_read.calls (l' := y148) (hl' := Ny148.out) k _ _ t146 t147 _ ?side1 ?side2 A27.out).mono ?_); (case side1 => exact ca_ (Kd.R_reads' HO143.out).2.2); (case side2 => rw [show t146.length = t141.length from (Kd.R_reads' HO143.out).1.symm]; exact (Kd.R_reads' HO143.out).2.1); rintro e w' ⟨rfl, ⟨nd, rfl⟩⟩; refine ⟨_, rfl, ?_⟩; have q38 : (t147 : Int) ≤ ((t141.length : Int) : Int) := od_; obtain ⟨i038, hi038, _, hsz38, _⟩ := info_parts info43; have hcut38 := cut_to (P := Tryd.prog) 24 43 .i64 Tryd.underlying24 hi038 Ao36 t141.length co36 t147 od_ q38 (Kd.R_reads' HO143.out).2.1; have hr38 := Kd.R_take (m := (t147 : Int).toNat) HO143.out (by have e_ := (Kd.R_reads' HO143.out).1; omega); have hy38 : y148.length = (t147 : Int).toNat := (by have e_ := (Kd.R_reads' HO143.out).1; rw [Ny148.out, List.length_take]; omega); rw [← Ny148.out] at hr38; rw [← hy38] at hr38 hcut38; clear hy38 hi038 hsz38 HO143; have HO150 := Aside0.mk hr38; clear hr38; replace q38 := eq_true q38) | ((with_reducible refine gate_callee (f := 22) rfl ?_); refine goesL_ (some 43) rfl rfl Tryd.func22 (by kernel_rfl) rfl #[.int .u64 (IntKind.u64.wrap (t145))] rfl am_ ?_; (with_reducible refine (nat_Of.calls k (IntKind.u64.wrap (t145)) t151 _ A30.out).mono ?_); rintro e w39 ⟨v152, rfl, ho0, hb⟩; refine ⟨_, rfl, ?_⟩; replace HO0 := Aside0.mk (Kd.V_elder' (va_ HO0.out) (Kd.R_base ho0) hb); replace HO1 := Aside0.mk (Kd.V_elder' (va_ HO1.out) (Kd.R_base ho0) hb); replace HO128 := Aside0.mk (Kd.N_elder' (by (with_reducible repeat (first | apply Kd.N_alloc | apply Kd.N_drewN | apply Kd.N_drew)); exact HO128.out) (Kd.R_base ho0) hb); replace HO140 := Aside0.mk (Kd.V_elder' (va_ HO140.out) (Kd.R_base ho0) hb); have HO153 := Aside0.mk (Kd.R_lower (Kd.R_new' (Kd.R_newM (M := fun k_ => (w.heap.size ≤ k_)) ho0 (below_size bl_) (fun k_ h_ => h_)) (Kd.R_lt (ra_ HO150.out))) (below_size bl_)); replace HO150 := Aside0.mk (Kd.R_elder' (ra_ HO150.out) (Kd.R_base ho0) hb); replace HB := Aside0.mk (below_step bl_ hb); (try clear hb); (try clear hb2); (try clear hk); (try clear hi); (try clear ho0)))
                    go_ret3
                    exact ⟨_, _, by first | rfl | (simp [errW_none, errW_some] <;> rfl) | (simp [*, errW_none, errW_some] <;> rfl), by (with_reducible repeat (first | apply Kd.R_alloc | apply Kd.R_drewN | apply Kd.R_drew)); exact Kd.R_mono HO150.out (fun _ hk => ⟨hk.1.1, hk.2⟩), by (with_reducible repeat (first | apply Kd.R_alloc | apply Kd.R_drewN | apply Kd.R_drew)); exact Kd.R_mono HO153.out (fun _ hk => ⟨hk.1.1, hk.2⟩), by repeat (first | (with_reducible first | exact HB.out | apply below_alloc | apply pw_below_drewN | apply below_drew1) | exact HB.out)⟩
                  · rw [if_neg c29] at H
                    exact absurd H (by simp)
                · rw [if_neg c28] at H
                  exact absurd H (by simp)
              · rw [if_neg c25] at H
                exact absurd H (by simp)
            · rw [if_neg c23] at H
              have c23b0 : ((y136.length : Int) == 1) = false := beq_eq_false_iff_ne.mpr c23
              have c23b1 : ((y136.length : Int) != 1) = true := bne_iff_ne.mpr c23
              replace H := Option.bind_eq_some_iff.mp H
              obtain ⟨t154, A400, H⟩ := H
              replace H : (if 0 ≤ t154 then (if t154 ≤ (l0.length : Int) then ((nat_long.f k (l0.take (t154 : Int).toNat) y136).bind fun bt160 => (some (bt160.1, bt160.2, 0))) else (none)) else (none)) = some (r1, r2, r3) := H
              have A40 := Aside0.mk A400
              clear A400
              by_cases c41 : 0 ≤ t154
              · rw [if_pos c41] at H
                have c41b0 := eq_true c41
                have c41b1 : decide (0 ≤ t154) = true := decide_eq_true c41
                clear c41
                by_cases c42 : t154 ≤ (l0.length : Int)
                · rw [if_pos c42] at H
                  have c42b0 := eq_true c42
                  have c42b1 : decide (t154 ≤ (l0.length : Int)) = true := decide_eq_true c42
                  clear c42
                  obtain ⟨y155, hy155⟩ : ∃ y_ : List Int, y_ = (l0.take (t154 : Int).toNat) := ⟨_, rfl⟩
                  replace H : ((nat_long.f k y155 y136).bind fun bt160 => (some (bt160.1, bt160.2, 0))) = some (r1, r2, r3) := by first | (rw [hy155]; with_reducible exact H) | (have H2_ := (Option.bind_some _ _).symm.trans H; rw [hy155]; with_reducible exact H2_) | (have H2_ := (Option.bind_some _ _).symm.trans H; with_reducible exact H2_) | with_reducible exact H | (rw [hy155]; exact H) | exact H
                  have Ny155 := Aside0.mk hy155
                  clear hy155
                  replace H := Option.bind_eq_some_iff.mp H
                  obtain ⟨⟨t160, t161⟩, A430, H⟩ := H
                  replace H : (some (t160, t161, 0)) = some (r1, r2, r3) := H
                  have A43 := Aside0.mk A430
                  clear A430
                  simp only [Option.some.injEq, Prod.mk.injEq] at H
                  obtain ⟨rfl, rfl, rfl⟩ := H
                  go_enter Tryd.func13, Tryd.ntmps13
                  go_wp2_with (first | ((with_reducible refine gate_dst (N := 14) rfl ?_); refine Kd.N_lit (Kd.slice 43 (Kd.int .u32)) _ 24 ?hg (N' := 14) ?hd (xs := ([l0, l1] : List (List Int))) (inner := [.slice A0 l0.length c0, .slice A1 l1.length c1]) (ok := (fun k_ => ((P0_ k_ ∨ P1_ k_) ∨ w.heap.size ≤ k_))) (okp := (fun k_ => ((P0_ k_ ∨ P1_ k_) ∨ w.heap.size ≤ k_))) ?hr ?hp (fun _ hk => hk) ((show ∀ k_, w.heap.size ≤ k_ → (fun k_ => ((P0_ k_ ∨ P1_ k_) ∨ w.heap.size ≤ k_)) k_ from fun k_ hk => (.inr (Nat.le_trans (below_size bl_) hk))) _ (Nat.le_refl _)) (Below.refl _ _) (Nat.le_refl _) (by simp) ?_; (case hd => rfl); (case hg => rfl); (case hr => first | (go_simp; done) | (go_simp; rfl)); (case hp => exact (Reps.one (show Kd.FK (Kd.slice 43 (Kd.int .u32)) _ _ l0 [.slice A0 l0.length c0] from (Kd.FK_slice_mk (Kd.V_reads' (Kd.V_mono (ok' := (fun k_ => ((P0_ k_ ∨ P1_ k_) ∨ w.heap.size ≤ k_))) (HO0.out) (fun k_ hk => hk))).2.1 (Kd.V_F (Kd.V_mono (ok' := (fun k_ => ((P0_ k_ ∨ P1_ k_) ∨ w.heap.size ≤ k_))) (HO0.out) (fun k_ hk => hk))))) (Reps.one (show Kd.FK (Kd.slice 43 (Kd.int .u32)) _ _ l1 [.slice A1 l1.length c1] from (Kd.FK_slice_mk (Kd.V_reads' (Kd.V_mono (ok' := (fun k_ => ((P0_ k_ ∨ P1_ k_) ∨ w.heap.size ≤ k_))) (HO1.out) (fun k_ hk => hk))).2.1 (Kd.V_F (Kd.V_mono (ok' := (fun k_ => ((P0_ k_ ∨ P1_ k_) ∨ w.heap.size ≤ k_))) (HO1.out) (fun k_ hk => hk))))) (Reps.none _ _)))); intro v127 w44 ho45 hb hg_ hnew_; clear hg_ hnew_; (first | rw [← Ny126.out] at ho45 | (simp only [Int.reduceToNat] at ho45; rw [← Ny126.out] at ho45)); replace HO0 := Aside0.mk (Kd.V_elder' (va_ HO0.out) (Kd.N_base ho45) hb); replace HO1 := Aside0.mk (Kd.V_elder' (va_ HO1.out) (Kd.N_base ho45) hb); have HO128 := Aside0.mk (Kd.N_lower ho45 (below_size bl_)); replace HB := Aside0.mk (below_step bl_ hb); clear hb ho45; obtain ⟨Ao46, co46, eo46⟩ := Kd.N_slice HO128.out; subst eo46) | ((with_reducible refine gate_callee (f := 24) rfl ?_); refine goesL_ (some 15) rfl rfl Tryd.func24 (by kernel_rfl) rfl #[.slice Ao46 y126.length co46] rfl am_ ?_; (with_reducible refine (nat_over.calls k _ _ y126 false _ ?side1 ?side2 A3.out).mono ?_); (case side1 => exact ca_ (Kd.N_reads' HO128.out).2.2); (case side2 => exact (Kd.N_reads' HO128.out).2.1); rintro e w' ⟨rfl, ⟨nd, rfl⟩⟩; refine ⟨_, rfl, ?_⟩) | ((with_reducible refine gate_callee (f := 29) rfl ?_); refine goesL_ (some 18) rfl rfl Tryd.func29 (by kernel_rfl) rfl #[.slice A1 l1.length c1] rfl am_ ?_; (with_reducible refine (nat_right.calls k _ _ l1 t130 _ ?side1 ?side2 A8.out).mono ?_); (case side1 => exact ca_ (Kd.V_reads' HO1.out).2.2); (case side2 => exact (Kd.V_reads' HO1.out).2.1); rintro e w' ⟨rfl, ⟨nd, rfl⟩⟩; refine ⟨_, rfl, ?_⟩) | ((with_reducible refine gate_callee (f := 15) rfl ?_); refine goesL_ (some 23) rfl rfl Tryd.func15 (by kernel_rfl) rfl #[.slice A0 l0.length c0, .slice A1 l1.length c1] rfl am_ ?_; (with_reducible refine (nat_Cmp.calls k _ _ l0 _ _ l1 t131 _ ?side1 ?side2 ?side3 ?side4 A13.out).mono ?_); (case side1 => exact ca_ (Kd.V_reads' HO0.out).2.2); (case side2 => exact (Kd.V_reads' HO0.out).2.1); (case side3 => exact ca_ (Kd.V_reads' HO1.out).2.2); (case side4 => exact (Kd.V_reads' HO1.out).2.1); rintro e w' ⟨rfl, ⟨nd, rfl⟩⟩; refine ⟨_, rfl, ?_⟩) | ((with_reducible refine gate_callee (f := 25) rfl ?_); refine goesL_ (some 28) rfl rfl Tryd.func25 (by kernel_rfl) rfl #[.slice A1 l1.length c1] rfl am_ ?_; (with_reducible refine (nat_cut_read.calls (l' := y136) (hl' := Ny136.out) k _ _ l1 t135 _ ?side1 ?side2 A20.out).mono ?_); (case side1 => exact ca_ (Kd.V_reads' HO1.out).2.2); (case side2 => exact (Kd.V_reads' HO1.out).2.1); rintro e w' ⟨rfl, ⟨nd, rfl⟩⟩; refine ⟨_, rfl, ?_⟩; have q47 : (t135 : Int) ≤ ((l1.length : Int) : Int) := od_; obtain ⟨i047, hi047, _, hsz47, _⟩ := info_parts info43; have hroom47 : l1.length ≤ c1 := (Kd.V_reads' HO1.out).2.1; have hC47 : Kd.F (Kd.int .u32) _ _ A1 l1.length l1 := (Kd.V_at (base := w.heap.size) HO1.out).2.2; have hcut47 := cut_to (P := Tryd.prog) 24 43 .i64 Tryd.underlying24 hi047 A1 l1.length c1 t135 od_ q47 hroom47; have hr47 := Kd.F_take (m := (t135 : Int).toNat) hC47 (by omega); have hy47 : y136.length = (t135 : Int).toNat := (by rw [Ny136.out, List.length_take]; omega); rw [← Ny136.out] at hr47; rw [← hy47] at hcut47; have HO140 := Aside0.mk (show Kd.V (Kd.int .u32) 43 _ w.heap.size _ (.slice A1 y136.length c1) y136 from Kd.V_mk (by omega) hr47); have HC140 := Aside0.mk (show y136.length ≤ c1 from by omega); clear hr47 hC47 hroom47 hi047 hsz47; have KY47 := Aside0.mk hy47; clear hy47; replace q47 := eq_true q47) | ((with_reducible refine gate_callee (f := 25) rfl ?_); refine goesL_ (some 46) rfl rfl Tryd.func25 (by kernel_rfl) rfl #[.slice A0 l0.length c0] rfl am_ ?_; (with_reducible refine (nat_cut_read.calls (l' := y155) (hl' := Ny155.out) k _ _ l0 t154 _ ?side1 ?side2 A40.out).mono ?_); (case side1 => exact ca_ (Kd.V_reads' HO0.out).2.2); (case side2 => exact (Kd.V_reads' HO0.out).2.1); rintro e w' ⟨rfl, ⟨nd, rfl⟩⟩; refine ⟨_, rfl, ?_⟩; have q48 : (t154 : Int) ≤ ((l0.length : Int) : Int) := od_; obtain ⟨i048, hi048, _, hsz48, _⟩ := info_parts info43; have hroom48 : l0.length ≤ c0 := (Kd.V_reads' HO0.out).2.1; have hC48 : Kd.F (Kd.int .u32) _ _ A0 l0.length l0 := (Kd.V_at (base := w.heap.size) HO0.out).2.2; have hcut48 := cut_to (P := Tryd.prog) 24 43 .i64 Tryd.underlying24 hi048 A0 l0.length c0 t154 od_ q48 hroom48; have hr48 := Kd.F_take (m := (t154 : Int).toNat) hC48 (by omega); have hy48 : y155.length = (t154 : Int).toNat := (by rw [Ny155.out, List.length_take]; omega); rw [← Ny155.out] at hr48; rw [← hy48] at hcut48; have HO159 := Aside0.mk (show Kd.V (Kd.int .u32) 43 _ w.heap.size _ (.slice A0 y155.length c0) y155 from Kd.V_mk (by omega) hr48); have HC159 := Aside0.mk (show y155.length ≤ c0 from by omega); clear hr48 hC48 hroom48 hi048 hsz48; have KY48 := Aside0.mk hy48; clear hy48; replace q48 := eq_true q48) | ((with_reducible refine gate_callee (f := 31) rfl ?_); refine goesL_ (some 48) rfl rfl Tryd.func31 (by kernel_rfl) rfl #[.slice A0 y155.length c0, .slice A1 y136.length c1] rfl am_ ?_; (with_reducible refine (nat_long.calls k _ _ y155 _ _ y136 t160 t161 _ ?side1 ?side2 ?side3 ?side4 A43.out).mono ?_); (case side1 => exact ca_ (Kd.V_reads' HO159.out).2.2); (case side2 => exact (Kd.V_reads' HO159.out).2.1); (case side3 => exact ca_ (Kd.V_reads' HO140.out).2.2); (case side4 => exact (Kd.V_reads' HO140.out).2.1); rintro e w49 ⟨v162, v164, rfl, ho0, ho1, hb⟩; refine ⟨_, rfl, ?_⟩; replace HO0 := Aside0.mk (Kd.V_mono (Kd.V_told (Kd.V_told (Kd.V_old (va_ HO0.out) hb) (Kd.R_base ho0)) (Kd.R_base ho1)) (fun _ h_ => h_.1)); replace HO1 := Aside0.mk (Kd.V_mono (Kd.V_told (Kd.V_told (Kd.V_old (va_ HO1.out) hb) (Kd.R_base ho0)) (Kd.R_base ho1)) (fun _ h_ => h_.1)); replace HO128 := Aside0.mk (Kd.N_mono (Kd.N_told (Kd.N_told (Kd.N_old (by (with_reducible repeat (first | apply Kd.N_alloc | apply Kd.N_drewN | apply Kd.N_drew)); exact HO128.out) hb) (Kd.R_base ho0)) (Kd.R_base ho1)) (fun _ h_ => h_.1)); replace HO140 := Aside0.mk (Kd.V_mono (Kd.V_told (Kd.V_told (Kd.V_old (va_ HO140.out) hb) (Kd.R_base ho0)) (Kd.R_base ho1)) (fun _ h_ => h_.1)); replace HO159 := Aside0.mk (Kd.V_mono (Kd.V_told (Kd.V_told (Kd.V_old (va_ HO159.out) hb) (Kd.R_base ho0)) (Kd.R_base ho1)) (fun _ h_ => h_.1)); have HO163 := Aside0.mk (Kd.R_lower (Kd.R_newM (M := fun k_ => (w.heap.size ≤ k_)) ho0 (below_size bl_) (fun k_ h_ => h_)) (below_size bl_)); have HO165 := Aside0.mk (Kd.R_lower (Kd.R_newM (M := fun k_ => (w.heap.size ≤ k_)) ho1 (below_size bl_) (fun k_ h_ => h_)) (below_size bl_)); replace HB := Aside0.mk (below_step bl_ hb); (try clear hb); (try clear hb2); (try clear hk); (try clear hi); (try clear ho0); (try clear ho1)))
                  go_ret3
                  exact ⟨_, _, by first | rfl | (simp [errW_none, errW_some] <;> rfl) | (simp [*, errW_none, errW_some] <;> rfl), by (with_reducible repeat (first | apply Kd.R_alloc | apply Kd.R_drewN | apply Kd.R_drew)); exact HO163.out, by (with_reducible repeat (first | apply Kd.R_alloc | apply Kd.R_drewN | apply Kd.R_drew)); exact HO165.out, by repeat (first | (with_reducible first | exact HB.out | apply below_alloc | apply pw_below_drewN | apply below_drew1) | exact HB.out)⟩
                · rw [if_neg c42] at H
                  exact absurd H (by simp)
              · rw [if_neg c41] at H
                exact absurd H (by simp)
          · rw [if_neg c22] at H
            exact absurd H (by simp)
        · rw [if_neg c21] at H
          exact absurd H (by simp)

end Go.Proofs.YtfcenlhaepckoaaDoor.Q
