import Derived.Test.YtfoojamabjpdpaaGreatDoorC
/- Closed runs: checkForm, query.Check. -/
namespace Go.Proofs.YtfoojamabjpdpaaGreatDoor.Led
open Go.RowKit Go.Proofs.YtfoojamabjpdpaaGreatDoorW.PrintWords Go.Proofs.YtfoojamabjpdpaaGreatDoorW.PrintLast Go.Proofs.YtfoojamabjpdpaaGreatDoorW.PrintMore
attribute [local go_sem] max2_int min2_int max_two min_two max_three min_three max_four min_four
attribute [local go_sem] ba_get ba_size List.getElem_toArray List.getElem_cons_zero List.getElem_cons_succ List.size_toArray List.length_cons List.length_nil
set_option linter.unusedVariables false
set_option linter.unusedSimpArgs false
/-- The one part of a query, and its atom. -/
structure PartsAt (W : World) (gp g c : Nat) (s : ByteArray) : Prop where
  p : W.cell? ⟨gp, 0, none⟩ = some (.slice (some ⟨g, 0, none⟩) 1 c)
  a : AtomAt W g s
theorem PartsAt.below {W W' : World} {gp g c : Nat} {s : ByteArray} (h : PartsAt W gp g c s) (hb : Below W.heap.size W W') : PartsAt W' gp g c s := ⟨pw_cell_below hb h.p, h.a.below hb⟩
set_option maxRecDepth 100000 in
theorem closure84 {s : ByteArray} (hs : IsV s) (g c : Nat) (w : World) (h : AtomAt w g s) : Calls Tryz.prog 84 #[.agg #[.slice (some ⟨g, 0, none⟩) 1 c]] w fun e w' => e = .returned (.bool false) ∧ Below w.heap.size w w' := by
  have H := Aside0.mk (h.below (below1 w (.cells #[.slice (some ⟨g, 0, none⟩) 1 c] 35)))
  clear h
  go_enter Tryz.func84, Tryz.ntmps84
  go_wp2_with (go_at_call 85; refine (Variables1 hs g c _ H.out).mono ?_; rintro e w1 ⟨g', c', rfl, hx, hb⟩; have HB := Aside0.mk ((below1 w _).trans (hb.mono (below1 w _).size)); clear hb hx)
  go_ret
  exact ⟨rfl, HB.out⟩
set_option maxRecDepth 100000 in
theorem IndexFunc84 {s : ByteArray} (hs : IsV s) (gp cp g c : Nat) (w : World) (h : PartsAt w gp g c s) : Calls Tryz.prog 114 #[.slice (some ⟨gp, 0, none⟩) 1 cp, .func (.func 84) #[] #[]] w fun e w' => e = .returned (.int .i64 (-1)) ∧ Below w.heap.size w w' := by
  have hp := h.p
  have H := Aside0.mk h.a
  clear h
  go_enter Tryz.func114, Tryz.ntmps114
  go_wp2
  refine wp_loop_rounds 3 (rounds_intro ?_)
  go_wp2_with (go_at_call 84; refine (closure84 hs g c _ H.out).mono ?_; rintro e w1 ⟨rfl, hb⟩; have HB := Aside0.mk hb; clear hb)
  refine rounds_intro ?_
  go_wp2
  go_ret
  exact ⟨rfl, HB.out⟩
set_option maxRecDepth 100000 in
theorem ContainsFunc84 {s : ByteArray} (hs : IsV s) (gp cp g c : Nat) (w : World) (h : PartsAt w gp g c s) : Calls Tryz.prog 83 #[.slice (some ⟨gp, 0, none⟩) 1 cp, .func (.func 84) #[] #[]] w fun e w' => e = .returned (.bool false) ∧ Below w.heap.size w w' := by
  have H := Aside0.mk h
  clear h
  go_enter Tryz.func83, Tryz.ntmps83
  go_wp2_with (go_at_call 114; refine (IndexFunc84 hs gp cp g c _ H.out).mono ?_; rintro e w1 ⟨rfl, hb⟩; have HB := Aside0.mk hb; clear hb)
  go_ret
  exact ⟨rfl, HB.out⟩
set_option maxHeartbeats 8000000 in
set_option maxRecDepth 100000 in
theorem checkForm1 {s : ByteArray} (hs : IsV s) (gp cp g c : Nat) (w : World) (h : PartsAt w gp g c s) (hR : Rules w) : Calls Tryz.prog 52 #[.agg #[.slice none 0 0, .slice (some ⟨gp, 0, none⟩) 1 cp]] w fun e w' => e = .returned (.int .i64 0) ∧ Below w.heap.size w w' := by
  have HP := Aside0.mk h
  have hb1 := below1 w (.cells #[.slice none 0 0, .slice (some ⟨gp, 0, none⟩) 1 cp] 67)
  have hb2 := below2 w (.cells #[.slice none 0 0, .slice (some ⟨gp, 0, none⟩) 1 cp] 67) (.cells #[.slice (some ⟨g, 0, none⟩) 1 c] 35)
  have hb3 := below3 w (.cells #[.slice none 0 0, .slice (some ⟨gp, 0, none⟩) 1 cp] 67) (.cells #[.slice (some ⟨g, 0, none⟩) 1 c] 35) (.cells #[.slice (some ⟨g, 0, none⟩) 1 c] 35)
  have hb4 := hb3.alloc hb3.size (.cells (atomA s) 32)
  have hp1 := (h.below hb1).p
  have hp2 := (h.below hb2).p
  obtain ⟨a0, a1, a2, a3, a4, a5⟩ := (h.below hb3).a
  have HR := Aside0.mk (hR.below hb4)
  have HB4 := Aside0.mk hb4
  clear h hR hb1 hb2 hb3 hb4
  go_enter Tryz.func52, Tryz.ntmps52
  go_wp2_with (go_at_call 78; go_in)
  refine wp_loop_rounds 3 (rounds_intro ?_)
  go_wp2_with (go_at_call 78; go_in)
  refine rounds_intro ?_
  go_wp2
  refine wp_loop_rounds 3 (rounds_intro ?_)
  go_wp2
  refine wp_loop_rounds 3 (rounds_intro ?_)
  go_wp2_with (go_at_call 79; refine (checkAtom_any hs _ HR.out).mono ?_; rintro e w1 ⟨rfl, hb⟩; have HB5 := Aside0.mk (HB4.out.trans (hb.mono HB4.out.size)); have x0 : w1.cell? ⟨w.heap.size, 0, none⟩ = some (.slice none 0 0) := pw_cell_below hb (by simp [go_sem]); have x1 : w1.cell? ⟨w.heap.size, 1, none⟩ = some (.slice (some ⟨gp, 0, none⟩) 1 cp) := pw_cell_below hb (by simp [go_sem]); have HP5 := Aside0.mk (HP.out.below HB5.out); clear hb)
  clear a0 a1 a2 a3 a4 a5 hp1 hp2 HR
  refine rounds_intro ?_
  go_wp2
  refine rounds_intro ?_
  go_wp2
  refine wp_loop_rounds 3 (rounds_intro ?_)
  go_wp2
  refine wp_loop_rounds 3 (rounds_intro ?_)
  go_wp2_with (go_at_call 83; refine (ContainsFunc84 hs gp cp g c _ HP5.out).mono ?_; rintro e w2 ⟨rfl, hb⟩; have HB6 := Aside0.mk (HB5.out.trans (hb.mono HB5.out.size)); clear hb)
  go_ret
  exact ⟨rfl, HB6.out⟩
end Go.Proofs.YtfoojamabjpdpaaGreatDoor.Led
/- Closed runs: query.Check. -/
namespace Go.Proofs.YtfoojamabjpdpaaGreatDoor.Led
open Go.RowKit Go.Proofs.YtfoojamabjpdpaaGreatDoorW.PrintWords Go.Proofs.YtfoojamabjpdpaaGreatDoorW.PrintLast Go.Proofs.YtfoojamabjpdpaaGreatDoorW.PrintMore
attribute [local go_sem] max2_int min2_int max_two min_two max_three min_three max_four min_four
attribute [local go_sem] ba_get ba_size List.getElem_toArray List.getElem_cons_zero List.getElem_cons_succ List.size_toArray List.length_cons List.length_nil
set_option linter.unusedVariables false
set_option linter.unusedSimpArgs false
set_option maxHeartbeats 8000000 in
set_option maxRecDepth 100000 in
theorem Check1 {s : ByteArray} (hs : IsV s) (gp cp g c : Nat) (w : World) (h : PartsAt w gp g c s) (hR : Rules w) : Calls Tryz.prog 32 #[.agg #[.slice none 0 0, .slice (some ⟨gp, 0, none⟩) 1 cp], .slice none 0 0] w fun e w' => e = .returned (.int .i64 0) ∧ Below w.heap.size w w' := by
  have hb1 := below1 w (.cells #[.slice none 0 0, .slice (some ⟨gp, 0, none⟩) 1 cp] 67)
  have HP := Aside0.mk (h.below hb1)
  have HR := Aside0.mk (hR.below hb1)
  have HB := Aside0.mk hb1
  clear h hR hb1
  have hmm := @run_makeMap Tryz.prog
  go_enter Tryz.func32, Tryz.ntmps32
  go_wp2_with fail
  go_at_call 52
  refine (checkForm1 hs gp cp g c _ HP.out HR.out).mono ?_
  rintro e w1 ⟨rfl, hb⟩
  have HB1 := Aside0.mk (HB.out.trans (hb.mono HB.out.size))
  have hm := below1 w1 (.map #[] 0)
  have x0 : w1.cell? ⟨w.heap.size, 1, none⟩ = some (.slice (some ⟨gp, 0, none⟩) 1 cp) := pw_cell_below hb (by simp [go_sem])
  have x1 := pw_cell_below hm x0
  have hp := ((HP.out.below hb).below hm).p
  obtain ⟨a0, a1, a2, a3, a4, a5⟩ := ((HP.out.below hb).below (below2 w1 (.map #[] 0) (.cells #[.slice (some ⟨g, 0, none⟩) 1 c] 35))).a
  have HB2 := Aside0.mk (HB1.out.trans ((below3 w1 (.map #[] 0) (.cells #[.slice (some ⟨g, 0, none⟩) 1 c] 35) (.cells (atomA s) 32)).mono HB1.out.size))
  clear hb hm x0
  go_wp2
  refine wp_loop_rounds 3 (rounds_intro ?_)
  go_wp2
  refine wp_loop_rounds 3 (rounds_intro ?_)
  go_wp2
  refine wp_loop_rounds 3 (rounds_intro ?_)
  go_wp2
  refine rounds_intro ?_
  go_wp2
  refine rounds_intro ?_
  go_wp2
  go_ret
  exact ⟨rfl, HB2.out⟩
end Go.Proofs.YtfoojamabjpdpaaGreatDoor.Led
/- Closed runs: Itoa, Clone, sort and compact of one atom, Tidy. -/
namespace Go.Proofs.YtfoojamabjpdpaaGreatDoor.Led
open Go.RowKit Go.Proofs.YtfoojamabjpdpaaGreatDoorW.PrintWords Go.Proofs.YtfoojamabjpdpaaGreatDoorW.PrintLast Go.Proofs.YtfoojamabjpdpaaGreatDoorW.PrintMore
attribute [local go_sem] max2_int min2_int max_two min_two max_three min_three max_four min_four
attribute [local go_sem] ba_get ba_size List.getElem_toArray List.getElem_cons_zero List.getElem_cons_succ List.size_toArray List.length_cons List.length_nil
set_option linter.unusedVariables false
set_option linter.unusedSimpArgs false
set_option maxRecDepth 100000 in
theorem small1 (w : World) : Calls Tryz.prog 147 #[.int .i64 1] w fun e w' => e = .returned (.string ⟨#[49]⟩) ∧ w = w' := by
  go_enter Tryz.func147, Tryz.ntmps147
  go_wp2
  go_ret
  exact ⟨by kernel_rfl, rfl⟩
set_option maxRecDepth 100000 in
theorem Itoa1 (w : World) : Calls Tryz.prog 57 #[.int .i64 1] w fun e w' => e = .returned (.string ⟨#[49]⟩) ∧ w = w' := by
  go_enter Tryz.func57, Tryz.ntmps57
  go_wp2_with (first | (go_at_call 147; refine (small1 _).mono ?_; rintro e w' ⟨rfl, rfl⟩) | go_in)
  go_goals
  go_ret
  exact ⟨rfl, rfl⟩
set_option maxRecDepth 100000 in
theorem insertionA (A : Option Addr) (c : Nat) (w : World) : Calls Tryz.prog 172 #[.slice A 1 c, .int .i64 0, .int .i64 1, .func (.func 99) #[] #[]] w fun e w' => e = .returned (.tuple #[]) ∧ w = w' := by
  go_enter Tryz.func172, Tryz.ntmps172
  go_wp2
  refine wp_loop_rounds 3 (rounds_intro ?_)
  go_wp2
  go_end0
  exact ⟨rfl, rfl⟩
set_option maxRecDepth 100000 in
theorem pdqA (A : Option Addr) (c : Nat) (w : World) : Calls Tryz.prog 151 #[.slice A 1 c, .int .i64 0, .int .i64 1, .int .i64 1, .func (.func 99) #[] #[]] w fun e w' => e = .returned (.tuple #[]) ∧ w = w' := by
  go_enter Tryz.func151, Tryz.ntmps151
  go_wp2
  refine wp_loop_rounds 3 (rounds_intro ?_)
  go_wp2_with (go_at_call 172; refine (insertionA _ _ _).mono ?_; rintro e w' ⟨rfl, rfl⟩)
  exact bodyPost_ret (v := .tuple #[]) (by simp [results, Tryz.results151, go_sem]) rfl ⟨rfl, rfl⟩
set_option maxRecDepth 100000 in
theorem SortFunc1 (A : Option Addr) (c : Nat) (w : World) : Calls Tryz.prog 129 #[.slice A 1 c, .func (.func 99) #[] #[]] w fun e w' => e = .returned (.tuple #[]) ∧ w = w' := by
  go_enter Tryz.func129, Tryz.ntmps129
  go_wp2_with (first | (go_at_call 140; refine (Len1 _).mono ?_; rintro e w' ⟨rfl, rfl⟩) | (go_at_call 151; refine (pdqA _ _ _).mono ?_; rintro e w' ⟨rfl, rfl⟩))
  go_end0
  exact ⟨rfl, rfl⟩
set_option maxRecDepth 100000 in
theorem CompactA (A : Option Addr) (c : Nat) (w : World) : Calls Tryz.prog 130 #[.slice A 1 c] w fun e w' => e = .returned (.slice A 1 c) ∧ w = w' := by
  go_enter Tryz.func130, Tryz.ntmps130
  go_wp2
  go_ret
  exact ⟨rfl, rfl⟩
end Go.Proofs.YtfoojamabjpdpaaGreatDoor.Led
