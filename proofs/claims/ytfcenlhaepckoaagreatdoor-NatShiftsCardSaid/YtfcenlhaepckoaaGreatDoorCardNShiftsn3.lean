/-
  NatShifts answers true for any list of limbs, any number of bits, any base and power, and leaves its arguments as they were; the condition: the listed package variables hold what the card ties to the program's text.
-/
import Derived.Test.YtfcenlhaepckoaaGreatDoorLNatShifts0n3
import Derived.Test.YtfcenlhaepckoaaGreatDoorProg
import Derived.Test.YtfcenlhaepckoaaGreatDoorPlainn3
import Derived.Test.YtfcenlhaepckoaaGreatDoorP0n3
import Derived.Test.YtfcenlhaepckoaaGreatDoorElibn3
import Derived.Test.YtfcenlhaepckoaaGreatDoorLNatShifts1n3
import Derived.Test.YtfcenlhaepckoaaGreatDoorLibsn3
import Derived.Test.YtfcenlhaepckoaaGreatDoorCards
import Derived.Test.YtfcenlhaepckoaaGreatDoorTie
import Derived.Lib.Strings
import Derived.Lib.Repeat
import Derived.Lib.SlTrimSet
import Derived.Lib.Bytealg
import Derived.Laws.MathBits
import Derived.Lib.Atoi
import Derived.Lib.ItoaNum
import Derived.ProofKit
import Derived.OpenShut
import Derived.ShutString
import Derived.ChangeOld
import Derived.LaidMore
import Derived.Lay
import Derived.Lib.LaidTab
import Derived.SevenTiedAt
import Derived.Stop.Joined
set_option linter.unusedSimpArgs false
set_option linter.unusedVariables false
namespace Go.Proofs.YtfcenlhaepckoaaGreatDoor.P
set_option linter.all false
open Go.RowKit Go.Proofs.YtfcenlhaepckoaaGreatDoorW.PrintWords Go.Proofs.YtfcenlhaepckoaaGreatDoorW.PrintLast Go.Proofs.YtfcenlhaepckoaaGreatDoorW.PrintMore Go.Proofs.YtfcenlhaepckoaaGreatDoor.Q Go.Proofs.YtfcenlhaepckoaaGreatDoor.LNatShifts
theorem can_len_fit {z : Int} (h : big z = false) : (can z).length ≤ 1000000 := by have := not_big_len h; omega
theorem shlR_len (z n : Int) (hz : 0 ≤ z) : (shlR z n).1.length ≤ 1000000 := by
  unfold shlR
  split
  · simp
  · split
    · simp
    · split
      · simp
      · split
        · simp
        · rename_i h1 h2 h3 h4
          have hb : big z = false := Bool.eq_false_iff.2 h2
          have hlt : z < PW 256 := by
            have := mt (big_iff hz).2 h2
            omega
          have hq : n.toNat / 32 ≤ 256 := by omega
          have hs : n.toNat % 32 ≤ 31 := by omega
          have hP := PW_pos (n.toNat / 32)
          have h31 := pow2_31 hs
          have h2p := pow2_pos (n.toNat % 32)
          have hb1 := mul_lt_PW hz hlt (Int.le_of_lt (PW_pos (n.toNat / 32))) (show PW (n.toNat / 32) < PW (n.toNat / 32 + 1) by rw [PW_succ]; omega)
          have hb2 := mul_lt_PW (n := 1) hb1.1 hb1.2 (Int.le_of_lt h2p) (show (2 : Int) ^ (n.toNat % 32) < PW 1 by rw [show PW 1 = 4294967296 from rfl]; omega)
          have := can_short hb2.1 hb2.2
          show (can (z * PW (n.toNat / 32) * 2 ^ (n.toNat % 32))).length ≤ 1000000
          omega
theorem shrR_len (z n : Int) (hz : 0 ≤ z) : (shrR z n).1.length ≤ 1000000 := by
  unfold shrR
  split
  · simp
  · split
    · simp
    · rename_i h1 h2
      have hb : big z = false := Bool.eq_false_iff.2 h2
      have hp := pow2_pos n.toNat
      have hle : z / 2 ^ n.toNat ≤ z := Int.ediv_le_self _ hz
      have := can_mono (Int.ediv_nonneg hz (Int.le_of_lt hp)) hle
      have := can_len_fit hb
      show (can (z / 2 ^ n.toNat)).length ≤ 1000000
      omega
theorem powR_len (b n : Int) : (powR b n).1.length ≤ 1000000 := by
  have key : ∀ d z, 0 ≤ z → big z = false → (powL b d z).1.length ≤ 1000000 := by
    intro d
    induction d with
    | zero => intro z _ hz; exact can_len_fit hz
    | succ d ih =>
      intro z hz0 hz
      rw [powL]
      split
      · simp
      · rename_i h
        by_cases hb : 0 ≤ z * b
        · exact ih _ hb (Bool.eq_false_iff.2 h)
        · have : ∀ d z, z < 0 ∨ big z = false → (powL b d z).1.length ≤ 1000000 := by
            intro d
            induction d with
            | zero =>
              intro z hz
              rcases hz with hz | hz
              · show (can z).length ≤ 1000000
                unfold can
                rw [show z.toNat = 0 by omega, canN_zero]; simp
              · exact can_len_fit hz
            | succ d ih2 =>
              intro z hz
              rw [powL]
              split
              · simp
              · rename_i h; exact ih2 _ (.inr (Bool.eq_false_iff.2 h))
          exact this d _ (.inr (Bool.eq_false_iff.2 h))
  unfold powR
  split
  · simp
  · split
    · simp
    · split
      · simp
      · exact key _ 1 (by decide) (big_billion (by decide) (by decide))
theorem pure_NatShifts (a : List Int) (n b p : Int) (la : Lim a) (hn : n ≤ 9223372036854775807) (hp : p ≤ 9223372036854775807) : ∃ k, tabardlaw1_NatShifts.f k a n b p = some true := by
  have hz := val_nonneg la
  have key : Ev (fun k => tabardlaw1_NatShifts.f k a n b p) true := by
    unfold tabardlaw1_NatShifts.f
    simp only [tabardlaw1_shown.f, Option.bind_some, if_true]
    refine Ev.step (fun k => by rw [tabardlaw1_NatShifts.j0]) ?_
    by_cases c1 : (a.length : Int) > 300
    · simp only [decide_eq_true c1, if_true]; exact Ev.now _
    · simp only [decide_eq_false c1, Bool.false_eq_true, if_false]
      refine (Shl_ev a n la (by omega) hn).bind ?_
      refine (refShl_ev a n la (by omega) hn).bind ?_
      refine (Shr_ev a n la (by omega) hn).bind ?_
      refine (refShr_ev a n la (by omega) hn).bind ?_
      refine (Pow_ev b p hp).bind ?_
      refine (refPow_ev b p hp).bind ?_
      refine (same_self _ (shlR_len _ _ hz)).bind ?_
      refine (same_self _ (shrR_len _ _ hz)).bind ?_
      refine (same_self _ (powR_len _ _)).bind ?_
      simp only [if_true, beq_self_eq_true]
      exact Ev.now _
  exact Ev.rounds key
theorem law_NatShifts (A0 : Option Addr) (c0 : Nat) (l0 : List Int) (a1 a2 a3 : Int) (w : World) (hT : Tabs w) (hr0 : Kd.C (Kd.int .u32) w A0 l0.length l0) (hc0 : l0.length ≤ c0) (hw0 : ∀ x ∈ l0, (Lit.int .u32 x).wf = true)
    (w1 : (Lit.int .i64 a1).wf = true) (w2 : (Lit.int .i64 a2).wf = true) (w3 : (Lit.int .i64 a3).wf = true) :
    Calls Tryz.prog 5 #[.slice A0 l0.length c0, .int .i64 a1, .int .i64 a2, .int .i64 a3] w fun e w' => e = .returned (.bool true) ∧ Below w.heap.size w w' := by
  obtain ⟨k, h⟩ := pure_NatShifts l0 a1 a2 a3 (wf_Lim hw0) (wf_i64 w1).2 (wf_i64 w3).2
  exact tabardlaw1_NatShifts.calls k _ _ l0 a1 a2 a3 true w hT hr0 hc0 h
end Go.Proofs.YtfcenlhaepckoaaGreatDoor.P
set_option linter.unusedVariables false
namespace Go.Proofs.YtfcenlhaepckoaaGreatDoor.natShiftsCard
set_option linter.all false
open Go.ChangeShapes Go.WideShapes Go.ChangeAt Go.RowKit Go.Joins Go.Proofs.YtfcenlhaepckoaaGreatDoor.P
open Go.ChangeMaps (open_string shut_string)
theorem own : ownKnob Tryz.prog.godebug = none := by kernel_rfl
theorem laidOut : laidOutB Tryz.prog = true := by kernel_rfl
def IsRow (k : IntKind) (w : World) (a : Option Addr) (len cap : Nat) (zs : List Int) : Prop :=
  (a = none ∧ len = 0 ∧ cap = 0 ∧ zs = []) ∨
  ∃ x, a = some x ∧ len ≤ cap ∧ cap ≤ maxLen ∧ zs.length = cap ∧ (∀ i, i < zs.length → w.cell? (x.add i) = some (.int k (zs.getD i 0))) ∧ ∀ n ∈ zs, (Lit.int k n).wf = true
theorem met_tail {P : Program} {W : World} {x : String × DataW Unit} {rest : List (String × DataW Unit)} (h : laidMet P (x :: rest) W) : laidMet P rest W := by
  obtain ⟨ps, ⟨g, t, cs, fuel, p, q, _, _, _, _, hr, rfl⟩, hn, hf⟩ := h
  exact ⟨q, hr, (List.nodup_append.1 hn).2.1, fun b off hm => hf b off (List.mem_append_right _ hm)⟩
theorem tabs_of {W : World} (h : laidMetH Tryz.prog Rows.natShiftsRow.laid W) : Tabs W := by
  rw [MakeChecks.laidMetH_plain _ _ _ (by kernel_rfl)] at h
  have h2 := met_tail (met_tail (h))
  exact Lib.tabIs_of_head (g := 4) (by kernel_rfl) (by kernel_rfl) Tryz.underlying154 Tryz.underlying23 (by kernel_rfl) (by kernel_rfl) h2
set_option maxRecDepth 100000 in
theorem lifted (os : Os) (started : os.Started) (H : Type) (enc : TypeId × Value → H) :
    ReturnsInHanded {} Tryz.checked os 5 .any (fun w args => (Rows.natShiftsSpec.pre enc Tryz.prog Tryz.f5 Rows.natShiftsRow.domain false w args ∧ laidMetH Tryz.prog Rows.natShiftsRow.laid w) ∧ sizedMet enc Tryz.prog Tryz.f5 (OpenSpec.ofChange Rows.natShiftsSpec) false w args)
      (Rows.natShiftsSpec.post enc Tryz.prog Tryz.f5 false true false false) := by
  refine returnsInHanded_of_change_and (C := Tryz.checked) (X := fun w _ => laidMetH Tryz.prog Rows.natShiftsRow.laid w) (fun _ _ _ hh h => h.of_heap hh) own started (by kernel_rfl) Tryz.func5
    (ChangeSpec.witness_shaped (enc := enc) (C := Tryz.checked) (os := os) (X := fun w _ => laidMetH Tryz.prog Rows.natShiftsRow.laid w) false (World.laidAll Tryz.prog os Rows.natShiftsRow.laid) #[.slice none 0 0, .int .i64 0, .int .i64 0, .int .i64 0] 8 (World.laidAll_os _ _ _)
      (World.shaped_of_ZipB (by kernel_rfl) (by kernel_rfl)) (by kernel_rfl) (by kernel_rfl) (by kernel_rfl)
      (by rw [MakeChecks.laidMetH_plain _ _ _ (by kernel_rfl)]; exact laidMet_laidAll _ (by kernel_rfl) (by kernel_rfl))) ?_
  intro W base args ds gs before hval0 hW hc _ hL _
  have hval : ∀ (j : Nat) t v, Tryz.f5.params[j]? = some t → args[j]? = some v → Value.okWide Tryz.prog W .any base t v := hval0
  have hW' := hW
  obtain ⟨p, q, hA0, hV, rfl, _, _⟩ := hW
  have hA : DataW.TrodAll enc Tryz.prog W 0 (fun _ => true) true Tryz.f5.params.toList args.toList ds p := hA0
  rw [Tryz.params5] at hA hval
  obtain ⟨v0, vs0, d0, ds0, p0, q0, hargs, rfl, rfl, h0, r0⟩ := trodAll_cons hA
  obtain ⟨v1, vs1, d1, ds1, p1, q1, rfl, rfl, rfl, h1, r1⟩ := trodAll_cons r0
  obtain ⟨v2, vs2, d2, ds2, p2, q2, rfl, rfl, rfl, h2, r2⟩ := trodAll_cons r1
  obtain ⟨v3, vs3, d3, ds3, p3, q3, rfl, rfl, rfl, h3, r3⟩ := trodAll_cons r2
  obtain ⟨rfl, rfl, rfl⟩ := trodAll_nil r3
  obtain rfl : args = #[v0, v1, v2, v3] := by cases args; simp_all
  obtain ⟨rfl, rfl⟩ := trodVars_none hV
  obtain ⟨A0, len0, cap0, rfl⟩ := okWide_slice Tryz.underlying22 (hval 0 22 v0 rfl rfl)
  have k0 := h0
  have lt0 : ∀ x ∈ p0, x.block < W.heap.size := by obtain ⟨m, hm⟩ := k0; exact DataW.trod_lt m _ _ _ hm
  obtain ⟨z0, w0⟩ : ∃ zs, IsRow .u32 W A0 len0 cap0 zs := by
    obtain ⟨fuel, hf⟩ := h0
    rcases open_ints Tryz.underlying22 Tryz.underlying63 (by kernel_rfl) hf with ⟨hcs, _⟩ | ⟨x, l, c, zs, hcs, _, hl, hm, hz, _, hcell, hwz⟩
    · simp [Value.cells] at hcs
      obtain ⟨rfl, rfl, rfl⟩ := hcs
      exact ⟨[], .inl ⟨rfl, rfl, rfl, rfl⟩⟩
    · simp [Value.cells] at hcs
      obtain ⟨rfl, rfl, rfl⟩ := hcs
      exact ⟨zs, .inr ⟨_, rfl, hl, hm, by simpa using hz, hcell, hwz⟩⟩
  obtain ⟨l0, rfl, hr0, hm0, hw0, hc0⟩ := Go.Proofs.YtfcenlhaepckoaaGreatDoorW.PrintWords.ReadsInt.ofRowC w0
  obtain ⟨a1, rfl, rfl, rfl, w1⟩ := open_int Tryz.underlying3 (hval 1 3 v1 rfl rfl) h1
  obtain ⟨a2, rfl, rfl, rfl, w2⟩ := open_int Tryz.underlying3 (hval 2 3 v2 rfl rfl) h2
  obtain ⟨a3, rfl, rfl, rfl, w3⟩ := open_int Tryz.underlying3 (hval 3 3 v3 rfl rfl) h3
  clear hA0 hval0
  refine (law_NatShifts A0 cap0 l0 a1 a2 a3 W (tabs_of hL) (Go.Proofs.YtfcenlhaepckoaaGreatDoorW.PrintWords.Kd.C_of_reads (d := (0 : Int)) (h1 := fun _ => rfl) hr0) hc0 hw0 w1 w2 w3).mono fun e W' ⟨he, bel⟩ => ?_
  subst he
  exact ⟨_, rfl, _, _, _, [], _, [], hW', trodAll_mk1 (shut_bool Tryz.underlying4 _), (trodAll_cons_mk (Below.trod laidOut (by kernel_rfl) (of_decide_eq_true (by kernel_rfl)) k0 bel lt0) (trodAll_cons_mk (shut_int Tryz.underlying3 w1) (trodAll_cons_mk (shut_int Tryz.underlying3 w2) (trodAll_cons_mk (shut_int Tryz.underlying3 w3) trodAll_mk0)))), rfl, bel.frame _, fun h => by cases h⟩
theorem holds : Rows.NatShiftsSaid :=
  OpenClaim.holds_of_wide 5 Tryz.f5 rfl rfl rfl rfl rfl rfl rfl ⟨rfl, rfl, rfl, rfl, rfl⟩ rfl rfl rfl rfl rfl (by kernel_rfl) Tryz.func5 (by kernel_rfl)
    (of_decide_eq_true (by kernel_rfl)) (by unfold Func.isWrapper; first | (rw [if_pos (by decide +kernel)]; kernel_rfl) | (rw [if_neg (by decide +kernel)]; exact ⟨rfl, rfl⟩))
    (fun os started H enc _ => lifted os started H enc)
theorem card_holds : Rows.NatShiftsCardSaid :=
  Claim7.holds_tied_plain_at .later [] Rows.natShiftsCard.laidKinds true Rows.natShiftsCard.stood.harness true holds (fun _ h => by cases h) (by kernel_rfl) (fun _ h => by cases h) natShifts_row_tie rfl ⟨rfl, rfl⟩ (by kernel_rfl) rfl
    (fun f fn hf hfn => by
      obtain rfl : f = 5 := Option.some.inj ((show Tryz.prog.funcNamed "tabard/tabardlaw1.NatShifts" = some 5 by kernel_rfl).symm.trans hf) |>.symm
      obtain rfl : fn = Tryz.f5 := (Option.some.inj (Tryz.func5.symm.trans hfn)).symm
      exact ⟨by kernel_rfl, fun j t ht => by
        rw [Tryz.params5] at ht
        have hm : t ∈ [22, 3, 3, 3] := by simpa using Array.mem_of_getElem? ht
        have hall : ([22, 3, 3, 3].all fun u => !Tryz.prog.wantsStandIn u) = true := by kernel_rfl
        exact (show Tryz.prog.wantsStandIn t = false by simpa using List.all_eq_true.1 hall t hm)⟩)
    (by kernel_rfl)
#print axioms card_holds
end Go.Proofs.YtfcenlhaepckoaaGreatDoor.natShiftsCard
namespace Go.Proofs.YtfcenlhaepckoaaGreatDoor
/-- The card, under a short name, for the claim. -/
theorem natShifts_card : Rows.NatShiftsCardSaid := natShiftsCard.card_holds
end Go.Proofs.YtfcenlhaepckoaaGreatDoor
