/- Before matches the specification, for every two ledgers, valid or not, in either order, and for each and itself: LedgerBeforeSpec returns true. Conditions, by the given row: what the six listed package-level variables read as when the call begins; the tied card ties it to the text of the pruned copy of the program. -/
import Derived.Test.YtfoojamabjpdpaaGreatDoorRows
import Derived.Test.YtfoojamabjpdpaaGreatDoorZB
import Derived.Test.YtfoojamabjpdpaaGreatDoorZC
import Derived.Test.YtfoojamabjpdpaaGreatDoorZD
import Derived.WalkKit
import Derived.ProofKit
import Derived.LaidMore
import Derived.LaidLaws
import Derived.OpenShut
import Derived.Below
import Derived.ChangeSame
import Derived.Stop.Joined
namespace Go.Proofs.YtfoojamabjpdpaaGreatDoor.Led
open Go.ChangeShapes Go.WideShapes Go.ChangeAt Go.RowKit Go.Joins Go.Deep Go.Proofs.YtfoojamabjpdpaaGreatDoorW.PrintWords Go.Proofs.YtfoojamabjpdpaaGreatDoor.PLedgerBeforeSpec
set_option linter.unusedVariables false
theorem own : ownKnob Tryz.prog.godebug = none := by kernel_rfl
theorem laidOut : laidOutB Tryz.prog = true := by kernel_rfl
set_option maxRecDepth 100000 in
/-- The door's own heap meets the condition. -/
theorem door_met (os : Os) (args : Array Value) : laidMetH Tryz.prog Rows.ledgerBeforeSpecRow.laid ((World.doorLaid Tryz.prog 400 os).forCall (fun _ _ => 0) ⟨#[], args, []⟩).memory :=
  laidMetH_of_parts3 (fuel := 8) (laidMet_of_run' 8 (by kernel_rfl) (by kernel_rfl)) (by kernel_rfl) (by kernel_rfl)
set_option maxRecDepth 100000 in
theorem lifted (os : Os) (started : os.Started) (H : Type) (enc : TypeId × Value → H) :
    ReturnsInHanded {} Tryz.checked os 3 .any (fun w args => (Rows.ledgerBeforeSpecSpec.pre enc Tryz.prog Tryz.f3 [] false w args ∧ laidMetH Tryz.prog Rows.ledgerBeforeSpecRow.laid w) ∧ sizedMet enc Tryz.prog Tryz.f3 (OpenSpec.ofChange Rows.ledgerBeforeSpecSpec) false w args)
      (Rows.ledgerBeforeSpecSpec.post enc Tryz.prog Tryz.f3 false true false false) := by
  refine returnsInHanded_of_change_and (C := Tryz.checked) (X := fun w _ => laidMetH Tryz.prog Rows.ledgerBeforeSpecRow.laid w) (fun _ _ _ hh h => h.of_heap hh) own started (by kernel_rfl) Tryz.func3
    (ChangeSpec.witness_shaped (enc := enc) (C := Tryz.checked) (os := os) (X := fun w _ => laidMetH Tryz.prog Rows.ledgerBeforeSpecRow.laid w) false (World.doorLaid Tryz.prog 400 os) #[.agg #[.string ⟨#[]⟩, .int .i64 0, .slice none 0 0], .agg #[.string ⟨#[]⟩, .int .i64 0, .slice none 0 0]] 8 rfl (World.shaped_of_RefB (by kernel_rfl) (by kernel_rfl)) (by kernel_rfl) (by kernel_rfl) (by kernel_rfl) (door_met os _)) ?_
  intro W base args ds gs before hval0 hW _ _ hL _
  have hval : ∀ (j : Nat) t v, Tryz.f3.params[j]? = some t → args[j]? = some v → Value.okWide Tryz.prog W .any base t v := hval0
  have hW' := hW
  obtain ⟨p, q, hA0, hV, rfl, hfz, hnd⟩ := hW
  have hA : DataW.TrodAll enc Tryz.prog W 0 (fun _ => true) true Tryz.f3.params.toList args.toList ds p := hA0
  rw [Tryz.params3] at hA hval
  obtain ⟨v0, v1, d0, d1, p0, p1, rfl, rfl, rfl, h0, h1⟩ := trodAll_two hA
  obtain ⟨rfl, rfl⟩ := trodVars_none hV
  have k0 := h0
  have k1 := h1
  have lt0 : ∀ x ∈ p0, x.block < W.heap.size := by obtain ⟨m, hm⟩ := k0; exact DataW.trod_lt m _ _ _ hm
  have lt1 : ∀ x ∈ p1, x.block < W.heap.size := by obtain ⟨m, hm⟩ := k1; exact DataW.trod_lt m _ _ _ hm
  have hR := rules_of_laid hL
  obtain ⟨a0, n0, A0, c0, l, rfl, hl, hc0⟩ := open_led (hval 0 24 v0 rfl rfl) h0
  obtain ⟨a1, n1, A1, c1, m, rfl, hm, hc1⟩ := open_led (hval 1 24 v1 rfl rfl) h1
  obtain ⟨bl, bl'⟩ := led_bounds hl
  obtain ⟨bm, bm'⟩ := led_bounds hm
  clear hA0 hval0
  simp only [List.append_nil] at hW'
  refine (Law3 a0 n0 A0 c0 l a1 n1 A1 c1 m W hl hc0 hm hc1 hR bl bl' bm bm').mono fun e W' ⟨he, bel⟩ => ?_
  subst he
  exact ⟨_, rfl, _, _, _, [], _, [], hW', trodAll_mk1 (shut_bool Tryz.underlying4 _), trodAll_mk2 (Below.trod laidOut (by kernel_rfl) (of_decide_eq_true (by kernel_rfl)) k0 bel lt0) (Below.trod laidOut (by kernel_rfl) (of_decide_eq_true (by kernel_rfl)) k1 bel lt1), rfl, bel.frame _, fun h => by cases h⟩
theorem row_holds : Rows.LedgerBeforeSpecSaid :=
  OpenClaim.holds_of_wide 3 Tryz.f3 rfl rfl rfl rfl rfl rfl rfl ⟨rfl, rfl, rfl, rfl, rfl⟩ rfl rfl rfl rfl rfl (by kernel_rfl) Tryz.func3 (by kernel_rfl)
    (of_decide_eq_true (by kernel_rfl)) (by unfold Func.isWrapper; first | (rw [if_pos (by decide +kernel)]; kernel_rfl) | (rw [if_neg (by decide +kernel)]; exact ⟨rfl, rfl⟩))
    (fun os started H enc _ => lifted os started H enc)
end Go.Proofs.YtfoojamabjpdpaaGreatDoor.Led
