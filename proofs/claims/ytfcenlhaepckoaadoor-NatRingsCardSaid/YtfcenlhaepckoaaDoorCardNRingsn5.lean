/-
  NatRings answers true for any three lists of limbs, and leaves its arguments as they were; the condition: the listed package variables hold what the card ties to the program's text.
-/
import Derived.Test.YtfcenlhaepckoaaDoorLNatRings0n5
import Derived.Test.YtfcenlhaepckoaaDoorProg
import Derived.Test.YtfcenlhaepckoaaDoorPlainn5
import Derived.Test.YtfcenlhaepckoaaDoorP0n5
import Derived.Test.YtfcenlhaepckoaaDoorElibn5
import Derived.Test.YtfcenlhaepckoaaDoorP5n5
import Derived.Test.YtfcenlhaepckoaaDoorLNatRings1n5
import Derived.Test.YtfcenlhaepckoaaDoorLibsn5
import Derived.Test.YtfcenlhaepckoaaDoorCards
import Derived.Test.YtfcenlhaepckoaaDoorTie
import Derived.Lib.Strings
import Derived.Lib.Repeat
import Derived.Lib.SlTrimSet
import Derived.Lib.Bytealg
import Derived.Laws.MathBits
import Derived.Lib.Atoi
import Derived.Lib.ItoaNum
import Derived.ProofKit
import Derived.OpenShut
import Derived.ShutString
import Derived.ChangeOld
import Derived.LaidMore
import Derived.Lay
import Derived.Lib.LaidTab
import Derived.SevenTiedAt
import Derived.Stop.Joined
set_option linter.unusedSimpArgs false
set_option linter.unusedVariables false
namespace Go.Proofs.YtfcenlhaepckoaaDoor.P
set_option linter.all false
open Go.RowKit Go.Proofs.YtfcenlhaepckoaaDoorW.PrintWords Go.Proofs.YtfcenlhaepckoaaDoorW.PrintLast Go.Proofs.YtfcenlhaepckoaaDoorW.PrintMore Go.Proofs.YtfcenlhaepckoaaDoor.Q Go.Proofs.YtfcenlhaepckoaaDoor.LNatRings

theorem Trim_can {a : List Int} (la : Lim a) (ha : a.length ≤ 1000000) : Ev (fun k => nat_Trim.f k a) (can (val a)) := by
  rw [can_of la]; exact Trim_ev a ha
theorem pure_NatRings (a b c : List Int) (la : Lim a) (lb : Lim b) (lc : Lim c) : ∃ k, tabardlaw1_NatRings.f k a b c = some true := by
  have key : Ev (fun k => tabardlaw1_NatRings.f k a b c) true := by
    unfold tabardlaw1_NatRings.f
    simp only [tabardlaw1_shown.f, Option.bind_some, if_true]
    have out : Ev (fun k => tabardlaw1_NatRings.j0 k a b c true true) true := by
      refine Ev.step (fun k => by rw [tabardlaw1_NatRings.j0]) ?_
      simp only [if_true]; exact Ev.now _
    by_cases c1 : (a.length : Int) > 60
    · simp only [if_pos c1]; exact out
    · simp only [if_neg c1]
      by_cases c2 : (b.length : Int) > 60
      · simp only [if_pos c2]; exact out
      · simp only [if_neg c2]
        by_cases c3 : (c.length : Int) > 60
        · simp only [decide_eq_true c3]; exact out
        · simp only [decide_eq_false c3]
          refine Ev.step (fun k => by rw [tabardlaw1_NatRings.j0]) ?_
          simp only [Bool.false_eq_true, if_false]
          have x0 := val_nonneg la
          have y0 := val_nonneg lb
          have z0 := val_nonneg lc
          have x1 := PW_lt (val_lt la) (show a.length ≤ 60 by omega)
          have y1 := PW_lt (val_lt lb) (show b.length ≤ 60 by omega)
          have z1 := PW_lt (val_lt lc) (show c.length ≤ 60 by omega)
          have e1 : Ev (fun k => nat_Trim.f k a) (can (val a)) := Trim_can la (by omega)
          have p256 : PW 62 ≤ PW 256 := PW_le (by decide)
          have p61 : PW 61 ≤ PW 62 := PW_le (by decide)
          have p60 : PW 60 ≤ PW 61 := PW_le (by decide)
          have q62 : PW 62 ≤ PW 120 := PW_le (by decide)
          have q120 : PW 120 ≤ PW 121 := PW_le (by decide)
          have q180 : PW 180 ≤ PW 256 := PW_le (by decide)
          have q1 : PW 121 ≤ PW 180 := PW_le (by decide)
          have sxy : val a + val b < PW 61 := add_lt_PW x1 y1
          have syz : val b + val c < PW 61 := add_lt_PW y1 z1
          have sxyz : val a + val b + val c < PW 62 := add_lt_PW sxy (by omega)
          have pxy : 0 ≤ val a * val b ∧ val a * val b < PW 120 := mul_lt_PW x0 x1 y0 y1
          have pxz : 0 ≤ val a * val c ∧ val a * val c < PW 120 := mul_lt_PW x0 x1 z0 z1
          have pyz : 0 ≤ val b * val c ∧ val b * val c < PW 120 := mul_lt_PW y0 y1 z0 z1
          have pxs : 0 ≤ val a * (val b + val c) ∧ val a * (val b + val c) < PW 121 := mul_lt_PW x0 x1 (show 0 ≤ val b + val c by omega) syz
          have ppz : 0 ≤ val a * val b * val c ∧ val a * val b * val c < PW 180 := mul_lt_PW pxy.1 pxy.2 z0 z1
          have pxp : 0 ≤ val a * (val b * val c) ∧ val a * (val b * val c) < PW 180 := mul_lt_PW x0 x1 pyz.1 pyz.2
          have A1 := Add_fit la lb (by omega) (by omega) (by omega)
          have A2 := Add_fit lb la (by omega) (by omega) (by omega)
          have A3 := Add_fit lb lc (by omega) (by omega) (by omega)
          have hxy := can_le (show 0 ≤ val a + val b by omega) (by omega)
          have hyz := can_le (show 0 ≤ val b + val c by omega) (by omega)
          have A4 := Add_fit (can_Lim (val a + val b)) lc hxy (by omega) (by rw [can_val (by omega)]; omega)
          have A5 := Add_fit la (can_Lim (val b + val c)) (by omega) hyz (by rw [can_val (by omega)]; omega)
          have A6 := Sub_fit (can_Lim (val a + val b)) lb hxy (by omega) (by rw [can_val (by omega)]; omega) (by rw [can_val (by omega)]; omega)
          rw [can_val (show 0 ≤ val a + val b by omega)] at A4 A6
          rw [can_val (show 0 ≤ val b + val c by omega)] at A5
          refine A1.bind ?_
          refine A2.bind ?_
          refine A3.bind ?_
          refine A4.bind ?_
          refine A5.bind ?_
          refine A6.bind ?_
          simp only [if_true]
          refine Ev.step (fun k => by rw [tabardlaw1_NatRings.j1]) ?_
          have b0 : ((0 : Int) != 0) = false := by decide
          simp only [b0, Bool.false_eq_true, if_false]
          have E1 := equal_self (val a + val b) (by omega) hxy
          rw [show val b + val a = val a + val b by omega]
          refine E1.bind ?_
          simp only [if_true]
          have hs3 := can_le (show 0 ≤ val a + val b + val c by omega) (by omega)
          have E2 := equal_self (val a + val b + val c) (by omega) hs3
          rw [show val a + (val b + val c) = val a + val b + val c by omega]
          refine E2.bind ?_
          simp only [if_true]
          refine e1.bind ?_
          have hxl := can_le x0 (by omega)
          rw [show val a + val b - val b = val a by omega]
          refine (equal_self (val a) x0 hxl).bind ?_
          refine Ev.step (fun k => by rw [tabardlaw1_NatRings.j2]) ?_
          have M1 := Mul_fit la lb (by omega) (by omega) (by omega) (by omega) (by omega)
          have M2 := Mul_fit lb la (by omega) (by omega) (by omega) (by omega) (by rw [Int.mul_comm]; omega)
          have M3 := Mul_fit la (can_Lim (val b + val c)) (by omega) hyz (by omega) (by rw [can_val (by omega)]; omega) (by rw [can_val (by omega)]; omega)
          rw [can_val (show 0 ≤ val b + val c by omega)] at M3
          have M4 := Mul_fit la lc (by omega) (by omega) (by omega) (by omega) (by omega)
          have hp1 := can_le pxy.1 (by omega)
          have hp2 := can_le pxz.1 (by omega)
          have hp3 := can_le pyz.1 (by omega)
          have A7 := Add_fit (can_Lim (val a * val b)) (can_Lim (val a * val c)) hp1 hp2 (by rw [can_val pxy.1, can_val pxz.1, ← Int.mul_add]; omega)
          rw [can_val pxy.1, can_val pxz.1] at A7
          have M5 := Mul_fit (can_Lim (val a * val b)) lc hp1 (by omega) (by rw [can_val pxy.1]; omega) (by omega) (by rw [can_val pxy.1]; omega)
          rw [can_val pxy.1] at M5
          have M6 := Mul_fit lb lc (by omega) (by omega) (by omega) (by omega) (by omega)
          have M7 := Mul_fit la (can_Lim (val b * val c)) (by omega) hp3 (by omega) (by rw [can_val pyz.1]; omega) (by rw [can_val pyz.1]; omega)
          rw [can_val pyz.1] at M7
          refine M1.bind ?_
          refine M2.bind ?_
          refine M3.bind ?_
          refine M4.bind ?_
          refine A7.bind ?_
          refine M5.bind ?_
          refine M6.bind ?_
          refine M7.bind ?_
          simp only [if_true]
          refine Ev.step (fun k => by rw [tabardlaw1_NatRings.j3]) ?_
          simp only [b0, Bool.false_eq_true, if_false, if_true]
          rw [Int.mul_comm (val b) (val a)]
          refine (equal_self _ pxy.1 hp1).bind ?_
          simp only [if_true]
          rw [← Int.mul_add]
          refine (equal_self _ pxs.1 (can_le pxs.1 (by omega))).bind ?_
          simp only [if_true]
          rw [← Int.mul_assoc]
          refine (equal_self _ ppz.1 (can_le ppz.1 (by omega))).bind ?_
          exact Ev.now _
  exact Ev.rounds key
theorem law_NatRings (A0 : Option Addr) (c0 : Nat) (l0 : List Int) (A1 : Option Addr) (c1 : Nat) (l1 : List Int) (A2 : Option Addr) (c2 : Nat) (l2 : List Int) (w : World) (hT : Tabs w) (hr0 : Kd.C (Kd.int .u32) w A0 l0.length l0) (hc0 : l0.length ≤ c0) (hw0 : ∀ x ∈ l0, (Lit.int .u32 x).wf = true)
    (hr1 : Kd.C (Kd.int .u32) w A1 l1.length l1) (hc1 : l1.length ≤ c1) (hw1 : ∀ x ∈ l1, (Lit.int .u32 x).wf = true) (hr2 : Kd.C (Kd.int .u32) w A2 l2.length l2) (hc2 : l2.length ≤ c2) (hw2 : ∀ x ∈ l2, (Lit.int .u32 x).wf = true) :
    Calls Tryd.prog 3 #[.slice A0 l0.length c0, .slice A1 l1.length c1, .slice A2 l2.length c2] w fun e w' => e = .returned (.bool true) ∧ Below w.heap.size w w' := by
  obtain ⟨k, h⟩ := pure_NatRings l0 l1 l2 (wf_Lim hw0) (wf_Lim hw1) (wf_Lim hw2)
  exact tabardlaw1_NatRings.calls k _ _ l0 _ _ l1 _ _ l2 true w hT hr0 hc0 hr1 hc1 hr2 hc2 h
end Go.Proofs.YtfcenlhaepckoaaDoor.P
set_option linter.unusedVariables false
namespace Go.Proofs.YtfcenlhaepckoaaDoor.natRingsCard
set_option linter.all false
open Go.ChangeShapes Go.WideShapes Go.ChangeAt Go.RowKit Go.Joins Go.Proofs.YtfcenlhaepckoaaDoor.P
open Go.ChangeMaps (open_string shut_string)
theorem own : ownKnob Tryd.prog.godebug = none := by kernel_rfl
theorem laidOut : laidOutB Tryd.prog = true := by kernel_rfl
def IsRow (k : IntKind) (w : World) (a : Option Addr) (len cap : Nat) (zs : List Int) : Prop :=
  (a = none ∧ len = 0 ∧ cap = 0 ∧ zs = []) ∨
  ∃ x, a = some x ∧ len ≤ cap ∧ cap ≤ maxLen ∧ zs.length = cap ∧ (∀ i, i < zs.length → w.cell? (x.add i) = some (.int k (zs.getD i 0))) ∧ ∀ n ∈ zs, (Lit.int k n).wf = true
theorem met_tail {P : Program} {W : World} {x : String × DataW Unit} {rest : List (String × DataW Unit)} (h : laidMet P (x :: rest) W) : laidMet P rest W := by
  obtain ⟨ps, ⟨g, t, cs, fuel, p, q, _, _, _, _, hr, rfl⟩, hn, hf⟩ := h
  exact ⟨q, hr, (List.nodup_append.1 hn).2.1, fun b off hm => hf b off (List.mem_append_right _ hm)⟩
theorem tabs_of {W : World} (h : laidMetH Tryd.prog Rows.natRingsRow.laid W) : Tabs W := by
  rw [MakeChecks.laidMetH_plain _ _ _ (by kernel_rfl)] at h
  have h2 := met_tail (met_tail (h))
  exact Lib.tabIs_of_head (g := 2) (by kernel_rfl) (by kernel_rfl) Tryd.underlying119 Tryd.underlying47 (by kernel_rfl) (by kernel_rfl) h2
set_option maxRecDepth 100000 in
theorem lifted (os : Os) (started : os.Started) (H : Type) (enc : TypeId × Value → H) :
    ReturnsInHanded {} Tryd.checked os 3 .any (fun w args => (Rows.natRingsSpec.pre enc Tryd.prog Tryd.f3 Rows.natRingsRow.domain false w args ∧ laidMetH Tryd.prog Rows.natRingsRow.laid w) ∧ sizedMet enc Tryd.prog Tryd.f3 (OpenSpec.ofChange Rows.natRingsSpec) false w args)
      (Rows.natRingsSpec.post enc Tryd.prog Tryd.f3 false true false false) := by
  refine returnsInHanded_of_change_and (C := Tryd.checked) (X := fun w _ => laidMetH Tryd.prog Rows.natRingsRow.laid w) (fun _ _ _ hh h => h.of_heap hh) own started (by kernel_rfl) Tryd.func3
    (ChangeSpec.witness_shaped (enc := enc) (C := Tryd.checked) (os := os) (X := fun w _ => laidMetH Tryd.prog Rows.natRingsRow.laid w) false (World.laidAll Tryd.prog os Rows.natRingsRow.laid) #[.slice none 0 0, .slice none 0 0, .slice none 0 0] 8 (World.laidAll_os _ _ _)
      (World.shaped_of_ZipB (by kernel_rfl) (by kernel_rfl)) (by kernel_rfl) (by kernel_rfl) (by kernel_rfl)
      (by rw [MakeChecks.laidMetH_plain _ _ _ (by kernel_rfl)]; exact laidMet_laidAll _ (by kernel_rfl) (by kernel_rfl))) ?_
  intro W base args ds gs before hval0 hW hc _ hL _
  have hval : ∀ (j : Nat) t v, Tryd.f3.params[j]? = some t → args[j]? = some v → Value.okWide Tryd.prog W .any base t v := hval0
  have hW' := hW
  obtain ⟨p, q, hA0, hV, rfl, _, _⟩ := hW
  have hA : DataW.TrodAll enc Tryd.prog W 0 (fun _ => true) true Tryd.f3.params.toList args.toList ds p := hA0
  rw [Tryd.params3] at hA hval
  obtain ⟨v0, vs0, d0, ds0, p0, q0, hargs, rfl, rfl, h0, r0⟩ := trodAll_cons hA
  obtain ⟨v1, vs1, d1, ds1, p1, q1, rfl, rfl, rfl, h1, r1⟩ := trodAll_cons r0
  obtain ⟨v2, vs2, d2, ds2, p2, q2, rfl, rfl, rfl, h2, r2⟩ := trodAll_cons r1
  obtain ⟨rfl, rfl, rfl⟩ := trodAll_nil r2
  obtain rfl : args = #[v0, v1, v2] := by cases args; simp_all
  obtain ⟨rfl, rfl⟩ := trodVars_none hV
  obtain ⟨A0, len0, cap0, rfl⟩ := okWide_slice Tryd.underlying22 (hval 0 22 v0 rfl rfl)
  have k0 := h0
  have lt0 : ∀ x ∈ p0, x.block < W.heap.size := by obtain ⟨m, hm⟩ := k0; exact DataW.trod_lt m _ _ _ hm
  obtain ⟨z0, w0⟩ : ∃ zs, IsRow .u32 W A0 len0 cap0 zs := by
    obtain ⟨fuel, hf⟩ := h0
    rcases open_ints Tryd.underlying22 Tryd.underlying43 (by kernel_rfl) hf with ⟨hcs, _⟩ | ⟨x, l, c, zs, hcs, _, hl, hm, hz, _, hcell, hwz⟩
    · simp [Value.cells] at hcs
      obtain ⟨rfl, rfl, rfl⟩ := hcs
      exact ⟨[], .inl ⟨rfl, rfl, rfl, rfl⟩⟩
    · simp [Value.cells] at hcs
      obtain ⟨rfl, rfl, rfl⟩ := hcs
      exact ⟨zs, .inr ⟨_, rfl, hl, hm, by simpa using hz, hcell, hwz⟩⟩
  obtain ⟨l0, rfl, hr0, hm0, hw0, hc0⟩ := Go.Proofs.YtfcenlhaepckoaaDoorW.PrintWords.ReadsInt.ofRowC w0
  obtain ⟨A1, len1, cap1, rfl⟩ := okWide_slice Tryd.underlying22 (hval 1 22 v1 rfl rfl)
  have k1 := h1
  have lt1 : ∀ x ∈ p1, x.block < W.heap.size := by obtain ⟨m, hm⟩ := k1; exact DataW.trod_lt m _ _ _ hm
  obtain ⟨z1, w1⟩ : ∃ zs, IsRow .u32 W A1 len1 cap1 zs := by
    obtain ⟨fuel, hf⟩ := h1
    rcases open_ints Tryd.underlying22 Tryd.underlying43 (by kernel_rfl) hf with ⟨hcs, _⟩ | ⟨x, l, c, zs, hcs, _, hl, hm, hz, _, hcell, hwz⟩
    · simp [Value.cells] at hcs
      obtain ⟨rfl, rfl, rfl⟩ := hcs
      exact ⟨[], .inl ⟨rfl, rfl, rfl, rfl⟩⟩
    · simp [Value.cells] at hcs
      obtain ⟨rfl, rfl, rfl⟩ := hcs
      exact ⟨zs, .inr ⟨_, rfl, hl, hm, by simpa using hz, hcell, hwz⟩⟩
  obtain ⟨l1, rfl, hr1, hm1, hw1, hc1⟩ := Go.Proofs.YtfcenlhaepckoaaDoorW.PrintWords.ReadsInt.ofRowC w1
  obtain ⟨A2, len2, cap2, rfl⟩ := okWide_slice Tryd.underlying22 (hval 2 22 v2 rfl rfl)
  have k2 := h2
  have lt2 : ∀ x ∈ p2, x.block < W.heap.size := by obtain ⟨m, hm⟩ := k2; exact DataW.trod_lt m _ _ _ hm
  obtain ⟨z2, w2⟩ : ∃ zs, IsRow .u32 W A2 len2 cap2 zs := by
    obtain ⟨fuel, hf⟩ := h2
    rcases open_ints Tryd.underlying22 Tryd.underlying43 (by kernel_rfl) hf with ⟨hcs, _⟩ | ⟨x, l, c, zs, hcs, _, hl, hm, hz, _, hcell, hwz⟩
    · simp [Value.cells] at hcs
      obtain ⟨rfl, rfl, rfl⟩ := hcs
      exact ⟨[], .inl ⟨rfl, rfl, rfl, rfl⟩⟩
    · simp [Value.cells] at hcs
      obtain ⟨rfl, rfl, rfl⟩ := hcs
      exact ⟨zs, .inr ⟨_, rfl, hl, hm, by simpa using hz, hcell, hwz⟩⟩
  obtain ⟨l2, rfl, hr2, hm2, hw2, hc2⟩ := Go.Proofs.YtfcenlhaepckoaaDoorW.PrintWords.ReadsInt.ofRowC w2
  clear hA0 hval0
  refine (law_NatRings A0 cap0 l0 A1 cap1 l1 A2 cap2 l2 W (tabs_of hL) (Go.Proofs.YtfcenlhaepckoaaDoorW.PrintWords.Kd.C_of_reads (d := (0 : Int)) (h1 := fun _ => rfl) hr0) hc0 hw0 (Go.Proofs.YtfcenlhaepckoaaDoorW.PrintWords.Kd.C_of_reads (d := (0 : Int)) (h1 := fun _ => rfl) hr1) hc1 hw1 (Go.Proofs.YtfcenlhaepckoaaDoorW.PrintWords.Kd.C_of_reads (d := (0 : Int)) (h1 := fun _ => rfl) hr2) hc2 hw2).mono fun e W' ⟨he, bel⟩ => ?_
  subst he
  exact ⟨_, rfl, _, _, _, [], _, [], hW', trodAll_mk1 (shut_bool Tryd.underlying4 _), (trodAll_cons_mk (Below.trod laidOut (by kernel_rfl) (of_decide_eq_true (by kernel_rfl)) k0 bel lt0) (trodAll_cons_mk (Below.trod laidOut (by kernel_rfl) (of_decide_eq_true (by kernel_rfl)) k1 bel lt1) (trodAll_cons_mk (Below.trod laidOut (by kernel_rfl) (of_decide_eq_true (by kernel_rfl)) k2 bel lt2) trodAll_mk0))), rfl, bel.frame _, fun h => by cases h⟩
theorem holds : Rows.NatRingsSaid :=
  OpenClaim.holds_of_wide 3 Tryd.f3 rfl rfl rfl rfl rfl rfl rfl ⟨rfl, rfl, rfl, rfl, rfl⟩ rfl rfl rfl rfl rfl (by kernel_rfl) Tryd.func3 (by kernel_rfl)
    (of_decide_eq_true (by kernel_rfl)) (by unfold Func.isWrapper; first | (rw [if_pos (by decide +kernel)]; kernel_rfl) | (rw [if_neg (by decide +kernel)]; exact ⟨rfl, rfl⟩))
    (fun os started H enc _ => lifted os started H enc)
theorem card_holds : Rows.NatRingsCardSaid :=
  Claim7.holds_tied_plain_at .later [] Rows.natRingsCard.laidKinds true Rows.natRingsCard.stood.harness true holds (fun _ h => by cases h) (by kernel_rfl) (fun _ h => by cases h) natRings_row_tie rfl ⟨rfl, rfl⟩ (by kernel_rfl) rfl
    (fun f fn hf hfn => by
      obtain rfl : f = 3 := Option.some.inj ((show Tryd.prog.funcNamed "tabard/tabardlaw1.NatRings" = some 3 by kernel_rfl).symm.trans hf) |>.symm
      obtain rfl : fn = Tryd.f3 := (Option.some.inj (Tryd.func3.symm.trans hfn)).symm
      exact ⟨by kernel_rfl, fun j t ht => by
        rw [Tryd.params3] at ht
        have hm : t ∈ [22, 22, 22] := by simpa using Array.mem_of_getElem? ht
        have hall : ([22, 22, 22].all fun u => !Tryd.prog.wantsStandIn u) = true := by kernel_rfl
        exact (show Tryd.prog.wantsStandIn t = false by simpa using List.all_eq_true.1 hall t hm)⟩)
    (by kernel_rfl)
#print axioms card_holds
end Go.Proofs.YtfcenlhaepckoaaDoor.natRingsCard
namespace Go.Proofs.YtfcenlhaepckoaaDoor
/-- The card, under a short name, for the claim. -/
theorem natRings_card : Rows.NatRingsCardSaid := natRingsCard.card_holds
end Go.Proofs.YtfcenlhaepckoaaDoor
