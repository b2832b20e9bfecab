/-
  DecimalMakes answers true for any two decimals, any sign, any digits and any exponent, and leaves its arguments as they were; the condition: the listed package variables hold what the card ties to the program's text.
-/
import Derived.Test.YtneeeaafhjaooaaGreatDoorCards
import Derived.Test.YtneeeaafhjaooaaGreatDoorTie
import Derived.Test.YtneeeaafhjaooaaGreatDoorLawMakesq6
import Derived.Test.YtneeeaafhjaooaaGreatDoorProg
import Derived.Test.YtneeeaafhjaooaaGreatDoorP0q6
import Derived.Test.YtneeeaafhjaooaaGreatDoorElibq6
import Derived.Test.YtneeeaafhjaooaaGreatDoorLibsq6
import Derived.ProofKit
import Derived.OpenShut
import Derived.ShutString
import Derived.ChangeOld
import Derived.LaidMore
import Derived.Lay
import Derived.Lib.LaidTab
import Derived.SevenTiedAt
import Derived.Stop.Joined
import Derived.Lib.Atoi
import Derived.Lib.ItoaLen
import Derived.Lib.ItoaMem
set_option linter.unusedVariables false
namespace Go.Proofs.YtneeeaafhjaooaaGreatDoor.decimalMakesCard
set_option linter.all false
open Go.ChangeShapes Go.WideShapes Go.ChangeAt Go.RowKit Go.Joins Go.Proofs.YtneeeaafhjaooaaGreatDoor.P
open Go.ChangeMaps (open_string shut_string)
theorem own : ownKnob Tryz.prog.godebug = none := by kernel_rfl
theorem met_tail {P : Program} {W : World} {x : String × DataW Unit} {rest : List (String × DataW Unit)} (h : laidMet P (x :: rest) W) : laidMet P rest W := by
  obtain ⟨ps, ⟨g, t, cs, fuel, p, q, _, _, _, _, hr, rfl⟩, hn, hf⟩ := h
  exact ⟨q, hr, (List.nodup_append.1 hn).2.1, fun b off hm => hf b off (List.mem_append_right _ hm)⟩
theorem tabs_of {W : World} (h : laidMetH Tryz.prog Rows.decimalMakesRow.laid W) : Tabs W := by
  rw [MakeChecks.laidMetH_plain _ _ _ (by kernel_rfl)] at h
  have h2 := met_tail (met_tail (h))
  exact Lib.tabIs_of_head (g := 5) (by kernel_rfl) (by kernel_rfl) Tryz.underlying119 Tryz.underlying88 (by kernel_rfl) (by kernel_rfl) h2
set_option maxRecDepth 100000 in
theorem lifted (os : Os) (started : os.Started) (H : Type) (enc : TypeId × Value → H) :
    ReturnsInHanded {} Tryz.checked os 3 .any (fun w args => (Rows.decimalMakesSpec.pre enc Tryz.prog Tryz.f3 Rows.decimalMakesRow.domain false w args ∧ laidMetH Tryz.prog Rows.decimalMakesRow.laid w) ∧ sizedMet enc Tryz.prog Tryz.f3 (OpenSpec.ofChange Rows.decimalMakesSpec) false w args)
      (Rows.decimalMakesSpec.post enc Tryz.prog Tryz.f3 false true false false) := by
  refine returnsInHanded_of_change_and (C := Tryz.checked) (X := fun w _ => laidMetH Tryz.prog Rows.decimalMakesRow.laid w) (fun _ _ _ hh h => h.of_heap hh) own started (by kernel_rfl) Tryz.func3
    (ChangeSpec.witness_shaped (enc := enc) (C := Tryz.checked) (os := os) (X := fun w _ => laidMetH Tryz.prog Rows.decimalMakesRow.laid w) false (World.laidAll Tryz.prog os Rows.decimalMakesRow.laid) #[.agg #[.bool false, .string ByteArray.empty, .int .i64 0], .agg #[.bool false, .string ByteArray.empty, .int .i64 0], .bool false, .string ByteArray.empty, .int .i64 0] 8 (World.laidAll_os _ _ _)
      (World.shaped_of_ZipB (by kernel_rfl) (by kernel_rfl)) (by kernel_rfl) (by kernel_rfl) (by kernel_rfl)
      (by rw [MakeChecks.laidMetH_plain _ _ _ (by kernel_rfl)]; exact laidMet_laidAll _ (by kernel_rfl) (by kernel_rfl))) ?_
  intro W base args ds gs before hval0 hW hc _ hL _
  have hval : ∀ (j : Nat) t v, Tryz.f3.params[j]? = some t → args[j]? = some v → Value.okWide Tryz.prog W .any base t v := hval0
  have hW' := hW
  obtain ⟨p, q, hA0, hV, rfl, _, _⟩ := hW
  have hA : DataW.TrodAll enc Tryz.prog W 0 (fun _ => true) true Tryz.f3.params.toList args.toList ds p := hA0
  rw [Tryz.params3] at hA hval
  obtain ⟨v0, vs0, d0, ds0, p0, q0, hargs, rfl, rfl, h0, r0⟩ := trodAll_cons hA
  obtain ⟨v1, vs1, d1, ds1, p1, q1, rfl, rfl, rfl, h1, r1⟩ := trodAll_cons r0
  obtain ⟨v2, vs2, d2, ds2, p2, q2, rfl, rfl, rfl, h2, r2⟩ := trodAll_cons r1
  obtain ⟨v3, vs3, d3, ds3, p3, q3, rfl, rfl, rfl, h3, r3⟩ := trodAll_cons r2
  obtain ⟨v4, vs4, d4, ds4, p4, q4, rfl, rfl, rfl, h4, r4⟩ := trodAll_cons r3
  obtain ⟨rfl, rfl, rfl⟩ := trodAll_nil r4
  obtain rfl : args = #[v0, v1, v2, v3, v4] := by cases args; simp_all
  obtain ⟨rfl, rfl⟩ := trodVars_none hV
  obtain ⟨c0_0, c0_1, c0_2, y0_0, y0_1, y0_2, m0, rfl, rfl, rfl, g0_0, g0_1, g0_2⟩ := open_agg3 Tryz.underlying23 (by kernel_rfl) (by kernel_rfl) (hval 0 23 v0 rfl rfl) h0
  obtain ⟨a0_0, e0_0, rfl⟩ := DataW.trod_bool Tryz.underlying4 g0_0
  obtain ⟨a0_1, e0_1, rfl, w0_1⟩ := DataW.trod_string Tryz.underlying9 g0_1
  obtain ⟨a0_2, e0_2, rfl, w0_2⟩ := DataW.trod_int Tryz.underlying3 g0_2
  simp at e0_0 e0_1 e0_2
  subst e0_0 e0_1 e0_2
  obtain ⟨c1_0, c1_1, c1_2, y1_0, y1_1, y1_2, m1, rfl, rfl, rfl, g1_0, g1_1, g1_2⟩ := open_agg3 Tryz.underlying23 (by kernel_rfl) (by kernel_rfl) (hval 1 23 v1 rfl rfl) h1
  obtain ⟨a1_0, e1_0, rfl⟩ := DataW.trod_bool Tryz.underlying4 g1_0
  obtain ⟨a1_1, e1_1, rfl, w1_1⟩ := DataW.trod_string Tryz.underlying9 g1_1
  obtain ⟨a1_2, e1_2, rfl, w1_2⟩ := DataW.trod_int Tryz.underlying3 g1_2
  simp at e1_0 e1_1 e1_2
  subst e1_0 e1_1 e1_2
  obtain ⟨a2, rfl, rfl, rfl⟩ := open_bool Tryz.underlying4 (hval 2 4 v2 rfl rfl) h2
  obtain ⟨a3, rfl, rfl, rfl, w3⟩ := open_string Tryz.underlying9 (hval 3 9 v3 rfl rfl) h3
  obtain ⟨a4, rfl, rfl, rfl, w4⟩ := open_int Tryz.underlying3 (hval 4 3 v4 rfl rfl) h4
  clear hA0 hval0
  refine (law_DecimalMakes a0_0 a0_1 a0_2 a1_0 a1_1 a1_2 a2 a3 a4 W (tabs_of hL) w0_1 w0_2 w1_1 w1_2 w3 w4).mono fun e W' ⟨he, bel⟩ => ?_
  subst he
  exact ⟨_, rfl, _, _, _, [], _, [], hW', trodAll_mk1 (shut_bool Tryz.underlying4 _), (trodAll_cons_mk (shut_agg3 (y0 := (.lit (.bool a0_0), [])) (y1 := (.lit (.string a0_1.data.toList), [])) (y2 := (.lit (.int .i64 a0_2), [])) Tryz.underlying23 (by kernel_rfl) (by kernel_rfl) (shut_bool Tryz.underlying4 _) (shut_string Tryz.underlying9 w0_1) (shut_int Tryz.underlying3 w0_2)) (trodAll_cons_mk (shut_agg3 (y0 := (.lit (.bool a1_0), [])) (y1 := (.lit (.string a1_1.data.toList), [])) (y2 := (.lit (.int .i64 a1_2), [])) Tryz.underlying23 (by kernel_rfl) (by kernel_rfl) (shut_bool Tryz.underlying4 _) (shut_string Tryz.underlying9 w1_1) (shut_int Tryz.underlying3 w1_2)) (trodAll_cons_mk (shut_bool Tryz.underlying4 _) (trodAll_cons_mk (shut_string Tryz.underlying9 w3) (trodAll_cons_mk (shut_int Tryz.underlying3 w4) trodAll_mk0))))), rfl, bel.frame _, fun h => by cases h⟩
theorem holds : Rows.DecimalMakesSaid :=
  OpenClaim.holds_of_wide 3 Tryz.f3 rfl rfl rfl rfl rfl rfl rfl ⟨rfl, rfl, rfl, rfl, rfl⟩ rfl rfl rfl rfl rfl (by kernel_rfl) Tryz.func3 (by kernel_rfl)
    (of_decide_eq_true (by kernel_rfl)) (by unfold Func.isWrapper; first | (rw [if_pos (by decide +kernel)]; kernel_rfl) | (rw [if_neg (by decide +kernel)]; exact ⟨rfl, rfl⟩))
    (fun os started H enc _ => lifted os started H enc)
theorem card_holds : Rows.DecimalMakesCardSaid :=
  Claim7.holds_tied_plain_at .later [] Rows.decimalMakesCard.laidKinds true Rows.decimalMakesCard.stood.harness true holds (fun _ h => by cases h) (by kernel_rfl) (fun _ h => by cases h) decimalMakes_row_tie rfl ⟨rfl, rfl⟩ (by kernel_rfl) rfl
    (fun f fn hf hfn => by
      obtain rfl : f = 3 := Option.some.inj ((show Tryz.prog.funcNamed "tabard/tabardlaw7.DecimalMakes" = some 3 by kernel_rfl).symm.trans hf) |>.symm
      obtain rfl : fn = Tryz.f3 := (Option.some.inj (Tryz.func3.symm.trans hfn)).symm
      exact ⟨by kernel_rfl, fun j t ht => by
        rw [Tryz.params3] at ht
        have hm : t ∈ [23, 23, 4, 9, 3] := by simpa using Array.mem_of_getElem? ht
        have hall : ([23, 23, 4, 9, 3].all fun u => !Tryz.prog.wantsStandIn u) = true := by kernel_rfl
        exact (show Tryz.prog.wantsStandIn t = false by simpa using List.all_eq_true.1 hall t hm)⟩)
    (by kernel_rfl)
#print axioms card_holds
end Go.Proofs.YtneeeaafhjaooaaGreatDoor.decimalMakesCard
namespace Go.Proofs.YtneeeaafhjaooaaGreatDoor
/-- The card, under a short name, for the claim. -/
theorem decimalMakes_card : Rows.DecimalMakesCardSaid := decimalMakesCard.card_holds
end Go.Proofs.YtneeeaafhjaooaaGreatDoor

