/- Before matches the specification, for every two ledgers: LedgerBeforeSpec returns true (the tied card, over the pruned copy of the program). Conditions: the six listed package-level variables read as the program's own text lays them (tied by the card). -/
import Derived.Test.YtfoojamabjpdpaaGreatDoorZE
import Derived.Test.YtfoojamabjpdpaaGreatDoorTie
import Derived.Test.YtfoojamabjpdpaaGreatDoorCards
import Derived.SevenTiedAt
namespace Go.Proofs.YtfoojamabjpdpaaGreatDoor
open Go
set_option maxRecDepth 100000 in
/-- The tied card of LedgerBeforeSpec. -/
theorem ledgerBeforeSpec_holds : Rows.LedgerBeforeSpecCardSaid :=
  Claim7.holds_tied_plain_at .later [] [.data, .data, .data, .data, .data, .data] true (true, "adfedf73dc16f5cc492fa205f4a4f53f9bd148052f923948fba3cbf7c114f339") true
    Led.row_holds (fun _ h => by cases h) (by kernel_rfl) (fun _ h => by cases h) ledgerBeforeSpec_row_tie rfl ⟨rfl, rfl⟩ (by kernel_rfl) rfl
    (fun f fn hf hfn => by
      obtain rfl : f = 3 := Option.some.inj ((show Tryz.prog.funcNamed "veilstone/veilstonelaw38.LedgerBeforeSpec" = some 3 by kernel_rfl).symm.trans hf) |>.symm
      obtain rfl : fn = Tryz.f3 := (Option.some.inj (Tryz.func3.symm.trans hfn)).symm
      exact ⟨by kernel_rfl, fun j t ht => by
        rw [Tryz.params3] at ht
        have hm : t ∈ [24, 24] := by simpa using Array.mem_of_getElem? ht
        have hall : ([24, 24].all fun u => !Tryz.prog.wantsStandIn u) = true := by kernel_rfl
        exact (show Tryz.prog.wantsStandIn t = false by simpa using List.all_eq_true.1 hall t hm)⟩)
    (by kernel_rfl)
#print axioms ledgerBeforeSpec_holds
end Go.Proofs.YtfoojamabjpdpaaGreatDoor
