import Derived.Test.YtfoojamabjpdpaaGreatDoorY
import Derived.Test.YtfoojamabjpdpaaGreatDoorU
/- Closed runs: ref.Same and ledger.Before on the ledgers of sane. -/
namespace Go.Proofs.YtfoojamabjpdpaaGreatDoor.Led
open Go.RowKit Go.Proofs.YtfoojamabjpdpaaGreatDoorW.PrintWords Go.Proofs.YtfoojamabjpdpaaGreatDoorW.PrintLast Go.Proofs.YtfoojamabjpdpaaGreatDoorW.PrintMore Go.Proofs.YtfoojamabjpdpaaGreatDoor.PLedgerBeforeSpec
attribute [local go_sem] max2_int min2_int max_two min_two max_three min_three max_four min_four
attribute [local go_sem] ba_get ba_size List.getElem_toArray List.getElem_cons_zero List.getElem_cons_succ List.size_toArray List.length_cons List.length_nil
set_option linter.unusedVariables false
set_option linter.unusedSimpArgs false
set_option maxHeartbeats 4000000 in
set_option maxRecDepth 100000 in
theorem SamePart1 (g c c' : Nat) (w : World) (h : AtomAt w g sV) : Calls Tryz.prog 17 #[.agg #[.slice (some ⟨g, 0, none⟩) 1 c], .agg #[.slice (some ⟨g, 0, none⟩) 1 c']] w fun e w' => e = .returned (.bool true) ∧ Below w.heap.size w w' := by
  have hu32 := Tryz.underlying32
  have hu35 := Tryz.underlying35
  have b2 := below2 w (.cells #[.slice (some ⟨g, 0, none⟩) 1 c] 35) (.cells #[.slice (some ⟨g, 0, none⟩) 1 c'] 35)
  obtain ⟨a0, a1, a2, a3, a4, a5⟩ := h.below b2
  have HB := Aside0.mk b2
  clear h b2
  go_enter Tryz.func17, Tryz.ntmps17
  go_wp2
  refine wp_loop_rounds 3 (rounds_intro ?_)
  go_wp2
  repeat (go_quiet (fail); try go_wp2)
  refine rounds_intro ?_
  go_wp2
  go_ret
  exact ⟨rfl, pw_below_drewN HB.out _⟩
set_option maxHeartbeats 4000000 in
set_option maxRecDepth 100000 in
theorem EqualFunc14nil (A1 : Option Addr) (c0 c1 : Nat) (w : World) : Calls Tryz.prog 14 #[.slice none 0 c0, .slice A1 0 c1, .func (.func 15) #[] #[]] w fun e w' => e = .returned (.bool true) ∧ w = w' := by
  go_enter Tryz.func14, Tryz.ntmps14
  go_wp2
  refine wp_loop_rounds 3 (rounds_intro ?_)
  go_wp2
  go_ret
  exact ⟨rfl, rfl⟩
set_option maxHeartbeats 4000000 in
set_option maxRecDepth 100000 in
theorem Before6nil (ad : Addr) (c1 : Nat) (w : World) : Calls Tryz.prog 6 #[.agg (led (.slice none 0 0)), .agg (led (.slice (some ad) 1 c1))] w fun e w' => e = .returned (.bool true) ∧ Below w.heap.size w w' := by
  have hu24 := Tryz.underlying24
  have b2 := below2 w (.cells (led (.slice none 0 0)) 24) (.cells (led (.slice (some ad) 1 c1)) 24)
  have x0 : ((w.alloc (Obj.cells (led (.slice none 0 0)) 24)).alloc (Obj.cells (led (.slice (some ad) 1 c1)) 24)).drew.cell? ⟨w.heap.size, 2, none⟩ = some (.slice none 0 0) := pw_cell_below (below1 (w.alloc (Obj.cells (led (.slice none 0 0)) 24)) _) (cell_new w (led (.slice none 0 0)) 24 (0, 0) 2)
  have x1 : ((w.alloc (Obj.cells (led (.slice none 0 0)) 24)).alloc (Obj.cells (led (.slice (some ad) 1 c1)) 24)).drew.cell? ⟨w.heap.size + 1, 2, none⟩ = some (.slice (some ad) 1 c1) := cell_new2 w _ (led (.slice (some ad) 1 c1)) 24 2
  have HB := Aside0.mk b2
  clear b2
  go_enter Tryz.func6, Tryz.ntmps6
  go_wp2
  go_region_held3 (fun w' => w'.cell? ⟨w.heap.size, 2, none⟩ = some (.slice none 0 0) ∧ w'.cell? ⟨w.heap.size + 1, 2, none⟩ = some (.slice (some ad) 1 c1)) (first | go_keep | exact ⟨x0, x1⟩) (first
    | (go_at_call 14
       refine (EqualFunc14nil _ _ _ _).mono ?_
       rintro e w4 ⟨rfl, rfl⟩))
  all_goals
    go_wp2
    go_ret
    exact ⟨rfl, pw_below_drewN HB.out 1⟩
set_option maxHeartbeats 8000000 in
set_option maxRecDepth 100000 in
theorem RefBefore1 (ge ce g c : Nat) (w : World) (h : EntryAt w ge g c) : Calls Tryz.prog 7 #[.agg (led (.slice (some ⟨ge, 0, none⟩) 1 ce)), .agg (led (.slice (some ⟨ge, 0, none⟩) 1 ce))] w fun e w' => e = .returned (.bool true) ∧ Below w.heap.size w w' := by
  have hu24 := Tryz.underlying24
  have hu35 := Tryz.underlying35
  have hu39 := Tryz.underlying39
  have b2 := below2 w (.cells (led (.slice (some ⟨ge, 0, none⟩) 1 ce)) 24) (.cells (led (.slice (some ⟨ge, 0, none⟩) 1 ce)) 24)
  have h2 := h.below b2
  have x0 : ((w.alloc (Obj.cells (led (.slice (some ⟨ge, 0, none⟩) 1 ce)) 24)).alloc (Obj.cells (led (.slice (some ⟨ge, 0, none⟩) 1 ce)) 24)).drew.cell? ⟨w.heap.size, 2, none⟩ = some (.slice (some ⟨ge, 0, none⟩) 1 ce) := pw_cell_below (below1 (w.alloc (Obj.cells (led (.slice (some ⟨ge, 0, none⟩) 1 ce)) 24)) _) (cell_new w (led (.slice (some ⟨ge, 0, none⟩) 1 ce)) 24 (0, 0) 2)
  have x1 : ((w.alloc (Obj.cells (led (.slice (some ⟨ge, 0, none⟩) 1 ce)) 24)).alloc (Obj.cells (led (.slice (some ⟨ge, 0, none⟩) 1 ce)) 24)).drew.cell? ⟨w.heap.size + 1, 2, none⟩ = some (.slice (some ⟨ge, 0, none⟩) 1 ce) := cell_new2 w _ (led (.slice (some ⟨ge, 0, none⟩) 1 ce)) 24 2
  have e0 := h2.no
  have e1 := h2.p
  have e0d : ((w.alloc (Obj.cells (led (.slice (some ⟨ge, 0, none⟩) 1 ce)) 24)).alloc (Obj.cells (led (.slice (some ⟨ge, 0, none⟩) 1 ce)) 24)).drew.cell? ⟨ge, 0, none⟩ = some (.int .i64 1) := e0
  have e1d : ((w.alloc (Obj.cells (led (.slice (some ⟨ge, 0, none⟩) 1 ce)) 24)).alloc (Obj.cells (led (.slice (some ⟨ge, 0, none⟩) 1 ce)) 24)).drew.cell? ⟨ge, 1, none⟩ = some (.slice (some ⟨g, 0, none⟩) 1 c) := e1
  have HA := Aside0.mk h2.a
  have HB := Aside0.mk b2
  clear b2 h h2
  go_enter Tryz.func7, Tryz.ntmps7
  go_wp2
  refine wp_loop_rounds 3 (rounds_intro ?_)
  go_wp2
  go_region_held3 (fun w' => w'.cell? ⟨w.heap.size, 2, none⟩ = some (.slice (some ⟨ge, 0, none⟩) 1 ce) ∧ w'.cell? ⟨w.heap.size + 1, 2, none⟩ = some (.slice (some ⟨ge, 0, none⟩) 1 ce) ∧ w'.cell? ⟨ge, 0, none⟩ = some (.int .i64 1) ∧ w'.cell? ⟨ge, 1, none⟩ = some (.slice (some ⟨g, 0, none⟩) 1 c)) (first | go_keep | exact ⟨x0, x1, e0d, e1d⟩) (first
    | (go_at_call 17
       refine (SamePart1 g c c _ (HA.out.below (below_drew1 (Below.refl _ _)))).mono ?_
       rintro e w4 ⟨rfl, hb⟩
       have HB4 := Aside0.mk ((pw_below_drewN HB.out 1).trans (hb.mono HB.out.size))
       have y0 := pw_cell_below hb x0
       have y1 := pw_cell_below hb x1
       have y2 := pw_cell_below hb e0d
       have y3 := pw_cell_below hb e1d
       clear hb))
  all_goals
    go_wp2
    refine rounds_intro ?_
    go_wp2
    go_ret
    exact ⟨rfl, HB4.out⟩
set_option maxHeartbeats 4000000 in
set_option maxRecDepth 100000 in
theorem Same1 (ge ce g c : Nat) (w : World) (h : EntryAt w ge g c) : Calls Tryz.prog 13 #[.agg (led (.slice (some ⟨ge, 0, none⟩) 1 ce)), .agg (led (.slice (some ⟨ge, 0, none⟩) 1 ce))] w fun e w' => e = .returned (.bool true) ∧ Below w.heap.size w w' := by
  have hu24 := Tryz.underlying24
  have b2 := below2 w (.cells (led (.slice (some ⟨ge, 0, none⟩) 1 ce)) 24) (.cells (led (.slice (some ⟨ge, 0, none⟩) 1 ce)) 24)
  have HA := Aside0.mk (h.below b2)
  have HB := Aside0.mk b2
  clear h b2
  go_enter Tryz.func13, Tryz.ntmps13
  go_wp2_with (go_at_call 7; refine (RefBefore1 ge ce g c _ HA.out).mono ?_; rintro e w4 ⟨rfl, hb⟩; have HB4 := Aside0.mk (HB.out.trans (hb.mono HB.out.size)); clear hb)
  go_ret
  exact ⟨rfl, HB4.out⟩
end Go.Proofs.YtfoojamabjpdpaaGreatDoor.Led
