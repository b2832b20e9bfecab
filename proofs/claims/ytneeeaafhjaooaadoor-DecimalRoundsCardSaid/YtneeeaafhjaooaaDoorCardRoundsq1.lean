/-
  DecimalRounds answers true for every decimal, every number of digits or places and every way, and leaves its arguments as they were; the condition: the listed package variables hold what the card ties to the program's text.
-/
import Derived.Test.YtneeeaafhjaooaaDoorCards
import Derived.Test.YtneeeaafhjaooaaDoorTie
import Derived.Test.YtneeeaafhjaooaaDoorLawRoundsq1
import Derived.Test.YtneeeaafhjaooaaDoorProg
import Derived.Test.YtneeeaafhjaooaaDoorP0q1
import Derived.Test.YtneeeaafhjaooaaDoorElibq1
import Derived.Test.YtneeeaafhjaooaaDoorLibsq1
import Derived.ProofKit
import Derived.OpenShut
import Derived.ShutString
import Derived.ChangeOld
import Derived.LaidMore
import Derived.Lay
import Derived.Lib.LaidTab
import Derived.SevenTiedAt
import Derived.Stop.Joined
import Derived.Lib.Atoi
import Derived.Lib.ItoaLen
import Derived.Lib.ItoaMem
set_option linter.unusedVariables false
namespace Go.Proofs.YtneeeaafhjaooaaDoor.decimalRoundsCard
set_option linter.all false
open Go.ChangeShapes Go.WideShapes Go.ChangeAt Go.RowKit Go.Joins Go.Proofs.YtneeeaafhjaooaaDoor.P
open Go.ChangeMaps (open_string shut_string)
theorem own : ownKnob Tryd.prog.godebug = none := by kernel_rfl
theorem met_tail {P : Program} {W : World} {x : String × DataW Unit} {rest : List (String × DataW Unit)} (h : laidMet P (x :: rest) W) : laidMet P rest W := by
  obtain ⟨ps, ⟨g, t, cs, fuel, p, q, _, _, _, _, hr, rfl⟩, hn, hf⟩ := h
  exact ⟨q, hr, (List.nodup_append.1 hn).2.1, fun b off hm => hf b off (List.mem_append_right _ hm)⟩
theorem tabs_of {W : World} (h : laidMetH Tryd.prog Rows.decimalRoundsRow.laid W) : Tabs W := by
  rw [MakeChecks.laidMetH_plain _ _ _ (by kernel_rfl)] at h
  have h2 := met_tail (met_tail (h))
  exact Lib.tabIs_of_head (g := 3) (by kernel_rfl) (by kernel_rfl) Tryd.underlying115 Tryd.underlying86 (by kernel_rfl) (by kernel_rfl) h2
set_option maxRecDepth 100000 in
theorem lifted (os : Os) (started : os.Started) (H : Type) (enc : TypeId × Value → H) :
    ReturnsInHanded {} Tryd.checked os 3 .any (fun w args => (Rows.decimalRoundsSpec.pre enc Tryd.prog Tryd.f3 Rows.decimalRoundsRow.domain false w args ∧ laidMetH Tryd.prog Rows.decimalRoundsRow.laid w) ∧ sizedMet enc Tryd.prog Tryd.f3 (OpenSpec.ofChange Rows.decimalRoundsSpec) false w args)
      (Rows.decimalRoundsSpec.post enc Tryd.prog Tryd.f3 false true false false) := by
  refine returnsInHanded_of_change_and (C := Tryd.checked) (X := fun w _ => laidMetH Tryd.prog Rows.decimalRoundsRow.laid w) (fun _ _ _ hh h => h.of_heap hh) own started (by kernel_rfl) Tryd.func3
    (ChangeSpec.witness_shaped (enc := enc) (C := Tryd.checked) (os := os) (X := fun w _ => laidMetH Tryd.prog Rows.decimalRoundsRow.laid w) false (World.laidAll Tryd.prog os Rows.decimalRoundsRow.laid) #[.agg #[.bool false, .string ByteArray.empty, .int .i64 0], .int .i64 0, .int .i64 0] 8 (World.laidAll_os _ _ _)
      (World.shaped_of_ZipB (by kernel_rfl) (by kernel_rfl)) (by kernel_rfl) (by kernel_rfl) (by kernel_rfl)
      (by rw [MakeChecks.laidMetH_plain _ _ _ (by kernel_rfl)]; exact laidMet_laidAll _ (by kernel_rfl) (by kernel_rfl))) ?_
  intro W base args ds gs before hval0 hW hc _ hL _
  have hval : ∀ (j : Nat) t v, Tryd.f3.params[j]? = some t → args[j]? = some v → Value.okWide Tryd.prog W .any base t v := hval0
  have hW' := hW
  obtain ⟨p, q, hA0, hV, rfl, _, _⟩ := hW
  have hA : DataW.TrodAll enc Tryd.prog W 0 (fun _ => true) true Tryd.f3.params.toList args.toList ds p := hA0
  rw [Tryd.params3] at hA hval
  obtain ⟨v0, vs0, d0, ds0, p0, q0, hargs, rfl, rfl, h0, r0⟩ := trodAll_cons hA
  obtain ⟨v1, vs1, d1, ds1, p1, q1, rfl, rfl, rfl, h1, r1⟩ := trodAll_cons r0
  obtain ⟨v2, vs2, d2, ds2, p2, q2, rfl, rfl, rfl, h2, r2⟩ := trodAll_cons r1
  obtain ⟨rfl, rfl, rfl⟩ := trodAll_nil r2
  obtain rfl : args = #[v0, v1, v2] := by cases args; simp_all
  obtain ⟨rfl, rfl⟩ := trodVars_none hV
  obtain ⟨c0_0, c0_1, c0_2, y0_0, y0_1, y0_2, m0, rfl, rfl, rfl, g0_0, g0_1, g0_2⟩ := open_agg3 Tryd.underlying23 (by kernel_rfl) (by kernel_rfl) (hval 0 23 v0 rfl rfl) h0
  obtain ⟨a0_0, e0_0, rfl⟩ := DataW.trod_bool Tryd.underlying4 g0_0
  obtain ⟨a0_1, e0_1, rfl, w0_1⟩ := DataW.trod_string Tryd.underlying9 g0_1
  obtain ⟨a0_2, e0_2, rfl, w0_2⟩ := DataW.trod_int Tryd.underlying3 g0_2
  simp at e0_0 e0_1 e0_2
  subst e0_0 e0_1 e0_2
  obtain ⟨a1, rfl, rfl, rfl, w1⟩ := open_int Tryd.underlying3 (hval 1 3 v1 rfl rfl) h1
  obtain ⟨a2, rfl, rfl, rfl, w2⟩ := open_int Tryd.underlying3 (hval 2 3 v2 rfl rfl) h2
  clear hA0 hval0
  refine (law_DecimalRounds a0_0 a0_1 a0_2 a1 a2 W (tabs_of hL) w0_1 w0_2 w1 w2).mono fun e W' ⟨he, bel⟩ => ?_
  subst he
  exact ⟨_, rfl, _, _, _, [], _, [], hW', trodAll_mk1 (shut_bool Tryd.underlying4 _), (trodAll_cons_mk (shut_agg3 (y0 := (.lit (.bool a0_0), [])) (y1 := (.lit (.string a0_1.data.toList), [])) (y2 := (.lit (.int .i64 a0_2), [])) Tryd.underlying23 (by kernel_rfl) (by kernel_rfl) (shut_bool Tryd.underlying4 _) (shut_string Tryd.underlying9 w0_1) (shut_int Tryd.underlying3 w0_2)) (trodAll_cons_mk (shut_int Tryd.underlying3 w1) (trodAll_cons_mk (shut_int Tryd.underlying3 w2) trodAll_mk0))), rfl, bel.frame _, fun h => by cases h⟩
theorem holds : Rows.DecimalRoundsSaid :=
  OpenClaim.holds_of_wide 3 Tryd.f3 rfl rfl rfl rfl rfl rfl rfl ⟨rfl, rfl, rfl, rfl, rfl⟩ rfl rfl rfl rfl rfl (by kernel_rfl) Tryd.func3 (by kernel_rfl)
    (of_decide_eq_true (by kernel_rfl)) (by unfold Func.isWrapper; first | (rw [if_pos (by decide +kernel)]; kernel_rfl) | (rw [if_neg (by decide +kernel)]; exact ⟨rfl, rfl⟩))
    (fun os started H enc _ => lifted os started H enc)
theorem card_holds : Rows.DecimalRoundsCardSaid :=
  Claim7.holds_tied_plain_at .later [] Rows.decimalRoundsCard.laidKinds true Rows.decimalRoundsCard.stood.harness true holds (fun _ h => by cases h) (by kernel_rfl) (fun _ h => by cases h) decimalRounds_row_tie rfl ⟨rfl, rfl⟩ (by kernel_rfl) rfl
    (fun f fn hf hfn => by
      obtain rfl : f = 3 := Option.some.inj ((show Tryd.prog.funcNamed "tabard/tabardlaw7.DecimalRounds" = some 3 by kernel_rfl).symm.trans hf) |>.symm
      obtain rfl : fn = Tryd.f3 := (Option.some.inj (Tryd.func3.symm.trans hfn)).symm
      exact ⟨by kernel_rfl, fun j t ht => by
        rw [Tryd.params3] at ht
        have hm : t ∈ [23, 3, 3] := by simpa using Array.mem_of_getElem? ht
        have hall : ([23, 3, 3].all fun u => !Tryd.prog.wantsStandIn u) = true := by kernel_rfl
        exact (show Tryd.prog.wantsStandIn t = false by simpa using List.all_eq_true.1 hall t hm)⟩)
    (by kernel_rfl)
#print axioms card_holds
end Go.Proofs.YtneeeaafhjaooaaDoor.decimalRoundsCard
namespace Go.Proofs.YtneeeaafhjaooaaDoor
/-- The card, under a short name, for the claim. -/
theorem decimalRounds_card : Rows.DecimalRoundsCardSaid := decimalRoundsCard.card_holds
end Go.Proofs.YtneeeaafhjaooaaDoor

