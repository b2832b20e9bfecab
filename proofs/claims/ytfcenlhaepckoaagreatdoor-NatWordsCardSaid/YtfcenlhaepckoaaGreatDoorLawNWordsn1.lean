import Derived.Test.YtfcenlhaepckoaaGreatDoorLNatWords0n1
import Derived.Test.YtfcenlhaepckoaaGreatDoorProg
import Derived.Test.YtfcenlhaepckoaaGreatDoorNShownn1
import Derived.Test.YtfcenlhaepckoaaGreatDoorP0n1
import Derived.Test.YtfcenlhaepckoaaGreatDoorElibn1
import Derived.Test.YtfcenlhaepckoaaGreatDoorNatDn1
import Derived.Test.YtfcenlhaepckoaaGreatDoorNatCn1
import Derived.Test.YtfcenlhaepckoaaGreatDoorNatBn1
import Derived.Test.YtfcenlhaepckoaaGreatDoorNatAn1
import Derived.Test.YtfcenlhaepckoaaGreatDoorLNatWords1n1
import Derived.Test.YtfcenlhaepckoaaGreatDoorLibsn1
import Derived.Lib.Strings
import Derived.Lib.Repeat
import Derived.Lib.SlTrimSet
import Derived.Lib.Bytealg
import Derived.Laws.MathBits
import Derived.Lib.Atoi
import Derived.Lib.ItoaNum
set_option linter.unusedSimpArgs false
set_option linter.unusedVariables false
namespace Go.Proofs.YtfcenlhaepckoaaGreatDoor.P
set_option linter.all false
open Go.RowKit Go.Proofs.YtfcenlhaepckoaaGreatDoorW.PrintWords Go.Proofs.YtfcenlhaepckoaaGreatDoorW.PrintLast Go.Proofs.YtfcenlhaepckoaaGreatDoorW.PrintMore Go.Proofs.YtfcenlhaepckoaaGreatDoor.Q Go.Proofs.YtfcenlhaepckoaaGreatDoor.LNatWords

theorem wf_u32 {x : Int} (h : (Lit.int .u32 x).wf = true) : 0 ≤ x ∧ x < 4294967296 := by
  simp [Lit.wf, IntKind.min, IntKind.max, IntKind.signed, IntKind.bits] at h
  omega
theorem wf_u64 {x : Int} (h : (Lit.int .u64 x).wf = true) : 0 ≤ x ∧ x < 18446744073709551616 := by
  simp [Lit.wf, IntKind.min, IntKind.max, IntKind.signed, IntKind.bits] at h
  omega
theorem wf_Lim {l : List Int} (h : ∀ x ∈ l, (Lit.int .u32 x).wf = true) : Lim l := fun x hx => wf_u32 (h x hx)

theorem pure_NatWords (a b : List Int) (v : Int) (la : Lim a) (lb : Lim b) (h0 : 0 ≤ v) (h1 : v < 18446744073709551616) : ∃ k, tabardlaw1_NatWords.f k a b v = some true := by
  have key : Ev (fun k => tabardlaw1_NatWords.f k a b v) true := by
    unfold tabardlaw1_NatWords.f
    simp only [tabardlaw1_shown.f, Option.bind_some, if_true]
    have out : Ev (fun k => tabardlaw1_NatWords.j0 k a b v true true) true := by
      refine Ev.step (fun k => by rw [tabardlaw1_NatWords.j0]) ?_
      simp only [if_true]; exact Ev.now _
    by_cases c1 : (a.length : Int) > 400
    · simp only [if_pos c1]; exact out
    · simp only [if_neg c1]
      by_cases c2 : (b.length : Int) > 400
      · simp only [decide_eq_true c2]; exact out
      · simp only [decide_eq_false c2]
        refine Ev.step (fun k => by rw [tabardlaw1_NatWords.j0]) ?_
        simp only [Bool.false_eq_true, if_false]
        refine (Trim_ev a (by omega)).bind ?_
        refine (refTrim_ev a (by omega)).bind ?_
        refine (same_self _ (by have := tr_length_le a; omega)).bind ?_
        refine (Of_ev v h0 h1).bind ?_
        refine (refOf_ev v h0 h1).bind ?_
        refine (same_self _ (by have := can_short h0 (show v < PW 2 from h1); omega)).bind ?_
        refine (Value_ev a (by omega) la).bind ?_
        refine (refValue_ev a (by omega) la).bind ?_
        simp only [if_true, beq_self_eq_true]
        refine (Len_ev a (by omega) la).bind ?_
        refine (refLen_ev a (by omega) la).bind ?_
        simp only [if_true]
        refine (Cmp_ev a b (by omega) (by omega) la lb).bind ?_
        refine (refCmp_ev a b (by omega) (by omega) la lb).bind ?_
        simp only [beq_self_eq_true]
        exact Ev.now _
  exact Ev.rounds key
theorem law_NatWords (A0 : Option Addr) (c0 : Nat) (l0 : List Int) (A1 : Option Addr) (c1 : Nat) (l1 : List Int) (a2 : Int) (w : World) (hT : Tabs w) (hr0 : Kd.C (Kd.int .u32) w A0 l0.length l0) (hc0 : l0.length ≤ c0) (hw0 : ∀ x ∈ l0, (Lit.int .u32 x).wf = true)
    (hr1 : Kd.C (Kd.int .u32) w A1 l1.length l1) (hc1 : l1.length ≤ c1) (hw1 : ∀ x ∈ l1, (Lit.int .u32 x).wf = true) (w2 : (Lit.int .u64 a2).wf = true) :
    Calls Tryz.prog 3 #[.slice A0 l0.length c0, .slice A1 l1.length c1, .int .u64 a2] w fun e w' => e = .returned (.bool true) ∧ Below w.heap.size w w' := by
  obtain ⟨k, h⟩ := pure_NatWords l0 l1 a2 (wf_Lim hw0) (wf_Lim hw1) (wf_u64 w2).1 (wf_u64 w2).2
  exact tabardlaw1_NatWords.calls k _ _ l0 _ _ l1 a2 true w hT hr0 hc0 hr1 hc1 h
end Go.Proofs.YtfcenlhaepckoaaGreatDoor.P
