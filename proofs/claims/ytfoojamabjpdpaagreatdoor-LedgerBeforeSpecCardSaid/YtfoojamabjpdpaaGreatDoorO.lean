import Derived.Test.YtfoojamabjpdpaaGreatDoorL
/- Closed runs: canonical. -/
namespace Go.Proofs.YtfoojamabjpdpaaGreatDoor.Led
open Go.RowKit Go.Proofs.YtfoojamabjpdpaaGreatDoorW.PrintWords Go.Proofs.YtfoojamabjpdpaaGreatDoorW.PrintLast Go.Proofs.YtfoojamabjpdpaaGreatDoorW.PrintMore
attribute [local go_sem] max2_int min2_int max_two min_two max_three min_three max_four min_four
attribute [local go_sem] ba_get ba_size List.getElem_toArray List.getElem_cons_zero List.getElem_cons_succ List.size_toArray List.length_cons List.length_nil
set_option linter.unusedVariables false
set_option linter.unusedSimpArgs false
set_option maxRecDepth 100000 in
theorem alone1 (g c : Nat) (w : World) : Calls Tryz.prog 33 #[.agg #[.slice (some ⟨g, 0, none⟩) 1 c]] w fun e w' => ∃ gp, e = .returned (.agg #[.slice none 0 0, .slice (some ⟨gp, 0, none⟩) 1 1]) ∧ w'.cell? ⟨gp, 0, none⟩ = some (.slice (some ⟨g, 0, none⟩) 1 c) ∧ Below w.heap.size w w' := by
  go_enter Tryz.func33, Tryz.ntmps33
  go_wp2
  have e0 : (((w.alloc (.cells #[.slice (some ⟨g, 0, none⟩) 1 c] 35)).alloc (.cells #[.slice none 0 0, .slice (some ⟨w.heap.size + 1 + 1, 0, none⟩) 1 1] 67)).alloc (.cells #[.slice (some ⟨g, 0, none⟩) 1 c] 35)).cell? ⟨w.heap.size + 1, 0, none⟩ = some (.slice none 0 0) := pw_cell_below (below1 _ _) (cell_new2 _ _ _ _ 0)
  have e1 : (((w.alloc (.cells #[.slice (some ⟨g, 0, none⟩) 1 c] 35)).alloc (.cells #[.slice none 0 0, .slice (some ⟨w.heap.size + 1 + 1, 0, none⟩) 1 1] 67)).alloc (.cells #[.slice (some ⟨g, 0, none⟩) 1 c] 35)).cell? ⟨w.heap.size + 1, 1, none⟩ = some (.slice (some ⟨w.heap.size + 1 + 1, 0, none⟩) 1 1) := pw_cell_below (below1 _ _) (cell_new2 _ _ _ _ 1)
  refine bodyPost_ret (v := .agg #[.slice none 0 0, .slice (some ⟨w.heap.size + 1 + 1, 0, none⟩) 1 1]) (by simp [results, Tryz.results33, go_sem, e0, e1]) rfl ?_
  exact ⟨_, rfl, cell_new3 _ _ _ _ _ 0, below3 _ _ _ _⟩
set_option maxHeartbeats 8000000 in
set_option maxRecDepth 100000 in
theorem canonical1 {s : ByteArray} (hs : IsV s) (g c : Nat) (w : World) (ha : AtomAt w g s) (hR : Rules w) : Calls Tryz.prog 21 #[.agg #[.slice (some ⟨g, 0, none⟩) 1 c]] w fun e w' => ∃ g' c', e = .returned (.tuple #[.agg #[.slice (some ⟨g', 0, none⟩) 1 c'], .int .i64 0]) ∧ AtomAt w' g' sV ∧ Below w.heap.size w w' := by
  have hb2 := below2 w (.cells #[.slice (some ⟨g, 0, none⟩) 1 c] 35) (.cells #[.slice none 0 0] 35)
  have HA := Aside0.mk (ha.below hb2)
  have HR := Aside0.mk (hR.below hb2)
  have HB := Aside0.mk hb2
  have HX := Aside0.mk (blk_new2 w (.cells #[.slice (some ⟨g, 0, none⟩) 1 c] 35) 35 #[.slice none 0 0])
  have p0 : ((w.alloc (.cells #[.slice (some ⟨g, 0, none⟩) 1 c] 35)).alloc (.cells #[.slice none 0 0] 35)).cell? ⟨w.heap.size, 0, none⟩ = some (.slice (some ⟨g, 0, none⟩) 1 c) := pw_cell_below (below1 _ _) (cell_new w _ 35 (0, 0) 0)
  clear ha hR hb2
  go_enter Tryz.func21, Tryz.ntmps21
  go_wp2_with fail
  go_at_call 33
  refine (alone1 g c _).mono ?_
  rintro e w1 ⟨gp, rfl, hp1, hb1⟩
  have HP1 := Aside0.mk (PartsAt.mk hp1 (HA.out.below hb1))
  have HR1 := Aside0.mk (HR.out.below hb1)
  have HB1 := Aside0.mk (HB.out.trans (hb1.mono HB.out.size))
  have HX1 := Aside0.mk (HX.out.below hb1 HX.out.lt)
  have p1 := pw_cell_below hb1 p0
  clear hp1 hb1
  go_wp2_with fail
  go_at_call 32
  refine (Check1 hs gp 1 g c _ HP1.out HR1.out).mono ?_
  rintro e w2 ⟨rfl, hb2⟩
  have HA2 := Aside0.mk (HP1.out.a.below hb2)
  have HR2 := Aside0.mk (HR1.out.below hb2)
  have HB2 := Aside0.mk (HB1.out.trans (hb2.mono HB1.out.size))
  have HX2 := Aside0.mk (HX1.out.below hb2 HX1.out.lt)
  have p2 := pw_cell_below hb2 p1
  clear hb2 p0 p1
  go_wp2_with fail
  go_at_call 33
  refine (alone1 g c _).mono ?_
  rintro e w3 ⟨gp3, rfl, hp3, hb3⟩
  have HP3 := Aside0.mk (PartsAt.mk hp3 (HA2.out.below hb3))
  have HR3 := Aside0.mk (HR2.out.below hb3)
  have HB3 := Aside0.mk (HB2.out.trans (hb3.mono HB2.out.size))
  have HX3 := Aside0.mk (HX2.out.below hb3 HX2.out.lt)
  clear hp3 hb3 p2
  go_wp2_with fail
  go_at_call 34
  refine (Rename1 hs gp3 1 g c _ HP3.out HR3.out).mono ?_
  rintro e w4 ⟨gq, cq, g', c', rfl, hp4, hb4⟩
  have hq := below1 w4 (.cells #[.slice none 0 0, .slice (some ⟨gq, 0, none⟩) 1 cq] 67)
  have hp5 := hp4.below hq
  have hx5 := (HX3.out.below hb4 HX3.out.lt).below hq (Nat.lt_of_lt_of_le HX3.out.lt hb4.size)
  have hb5 := (HB3.out.trans (hb4.mono HB3.out.size)).trans (hq.mono (Nat.le_trans HB3.out.size hb4.size))
  have y0 := hp5.p
  have x0 := hx5.cell 0
  have xf := hx5.frozen 0
  have hx6 := hx5.set_ 0 (.slice (some ⟨g', 0, none⟩) 1 c')
  have x6 := hx6.cell 0
  have hne : g' ≠ w.heap.size + 1 := by
    rintro rfl
    have h1 := hp5.a.1
    rw [x0] at h1
    cases h1
  have HE := Aside0.mk (And.intro (hp5.a.far (p := ⟨w.heap.size + 1, 0, none⟩) hne (.slice (some ⟨g', 0, none⟩) 1 c')) (hb5.setCell (p := ⟨w.heap.size + 1, 0, none⟩) (by simp) (.slice (some ⟨g', 0, none⟩) 1 c')))
  clear hp4 hb4 hq hp5 hx5 hb5 hx6 hne
  go_wp2
  refine bodyPost_ret (v := .tuple #[.agg #[.slice (some ⟨g', 0, none⟩) 1 c'], .int .i64 0]) (by simp [results, Tryz.results21, go_sem, x6]) rfl ?_
  exact ⟨g', c', rfl, HE.out.1, HE.out.2⟩
end Go.Proofs.YtfoojamabjpdpaaGreatDoor.Led
/- Closed runs: find, Check, New. -/
namespace Go.Proofs.YtfoojamabjpdpaaGreatDoor.Led
open Go.RowKit Go.Proofs.YtfoojamabjpdpaaGreatDoorW.PrintWords Go.Proofs.YtfoojamabjpdpaaGreatDoorW.PrintLast Go.Proofs.YtfoojamabjpdpaaGreatDoorW.PrintMore
attribute [local go_sem] max2_int min2_int max_two min_two max_three min_three max_four min_four
attribute [local go_sem] ba_get ba_size List.getElem_toArray List.getElem_cons_zero List.getElem_cons_succ List.size_toArray List.length_cons List.length_nil
set_option linter.unusedVariables false
set_option linter.unusedSimpArgs false
set_option maxRecDepth 100000 in
theorem Equal1 (g g' c c' : Nat) (w : World) (h : AtomAt w g sV) (h' : AtomAt w g' sV) : Calls Tryz.prog 29 #[.slice (some ⟨g, 0, none⟩) 1 c, .slice (some ⟨g', 0, none⟩) 1 c'] w fun e w' => e = .returned (.bool true) ∧ ∃ n, w' = w.drewN n := by
  obtain ⟨a0, a1, a2, a3, a4, a5⟩ := h
  obtain ⟨b0, b1, b2, b3, b4, b5⟩ := h'
  go_enter Tryz.func29, Tryz.ntmps29
  go_wp2
  refine wp_loop_rounds 3 (rounds_intro ?_)
  go_wp2
  go_quiet (fail)
  go_wp2
  refine rounds_intro ?_
  go_wp2
  go_ret
  exact ⟨rfl, _, rfl⟩
set_option maxRecDepth 100000 in
theorem same1 (g g' c c' : Nat) (w : World) (h : AtomAt w g sV) (h' : AtomAt w g' sV) : Calls Tryz.prog 16 #[.slice (some ⟨g, 0, none⟩) 1 c, .slice (some ⟨g', 0, none⟩) 1 c'] w fun e w' => e = .returned (.bool true) ∧ ∃ n, w' = w.drewN n := by
  have C := Aside0.mk (Equal1 g g' c c' w h h')
  clear h h'
  go_enter Tryz.func16, Tryz.ntmps16
  go_wp2_with (go_at_call 29; refine C.out.mono ?_; rintro e w' ⟨rfl, n, rfl⟩)
  go_ret
  exact ⟨rfl, n, rfl⟩
/-- The one entry of a ledger. -/
structure EntryAt (W : World) (ge g c : Nat) : Prop where
  no : W.cell? ⟨ge, 0, none⟩ = some (.int .i64 1)
  p : W.cell? ⟨ge, 1, none⟩ = some (.slice (some ⟨g, 0, none⟩) 1 c)
  a : AtomAt W g sV
theorem EntryAt.below {W W' : World} {ge g c : Nat} (h : EntryAt W ge g c) (hb : Below W.heap.size W W') : EntryAt W' ge g c := ⟨pw_cell_below hb h.no, pw_cell_below hb h.p, h.a.below hb⟩
set_option maxRecDepth 100000 in
theorem closure36 (pb g g' c c' : Nat) (w : World) (hp : w.cell? ⟨pb, 0, none⟩ = some (.slice (some ⟨g', 0, none⟩) 1 c')) (h : AtomAt w g sV) (h' : AtomAt w g' sV) : Calls Tryz.prog 36 #[.agg #[.int .i64 1, .slice (some ⟨g, 0, none⟩) 1 c], .pointer (some ⟨pb, 0, none⟩)] w fun e w' => e = .returned (.bool true) ∧ Below w.heap.size w w' := by
  have hb := below1 w (.cells #[.int .i64 1, .slice (some ⟨g, 0, none⟩) 1 c] 39)
  have HA := Aside0.mk (And.intro (h.below hb) (h'.below hb))
  have p1 := pw_cell_below hb hp
  have HB := Aside0.mk hb
  clear h h' hb hp
  go_enter Tryz.func36, Tryz.ntmps36
  go_wp2_with (go_at_call 16; refine (same1 g g' c c' _ HA.out.1 HA.out.2).mono ?_; rintro e w' ⟨rfl, n, rfl⟩)
  go_ret
  exact ⟨rfl, pw_below_drewN HB.out n⟩
set_option maxRecDepth 100000 in
theorem IndexFunc36_0 (F : Value) (w : World) : Calls Tryz.prog 35 #[.slice none 0 0, F] w fun e w' => e = .returned (.int .i64 (-1)) ∧ w = w' := by
  go_enter Tryz.func35, Tryz.ntmps35
  go_wp2
  refine wp_loop_rounds 3 (rounds_intro ?_)
  go_wp2
  go_ret
  exact ⟨rfl, rfl⟩
set_option maxRecDepth 100000 in
theorem IndexFunc36_1 (pb ge ce g g' c c' : Nat) (w : World) (hp : w.cell? ⟨pb, 0, none⟩ = some (.slice (some ⟨g', 0, none⟩) 1 c')) (h : EntryAt w ge g c) (h' : AtomAt w g' sV) : Calls Tryz.prog 35 #[.slice (some ⟨ge, 0, none⟩) 1 ce, .func (.func 36) #[] #[.pointer (some ⟨pb, 0, none⟩)]] w fun e w' => e = .returned (.int .i64 0) ∧ Below w.heap.size w w' := by
  have HA := Aside0.mk (And.intro hp (And.intro h.a h'))
  have e0 := h.no
  have e1 := h.p
  clear h h' hp
  go_enter Tryz.func35, Tryz.ntmps35
  go_wp2
  refine wp_loop_rounds 3 (rounds_intro ?_)
  go_wp2_with (go_at_call 36; refine (closure36 pb g g' c c' _ HA.out.1 HA.out.2.1 HA.out.2.2).mono ?_; rintro e w1 ⟨rfl, hb⟩; have HB := Aside0.mk hb; clear hb)
  go_ret
  exact ⟨rfl, HB.out⟩
set_option maxRecDepth 100000 in
theorem find0 (g' c' : Nat) (w : World) : Calls Tryz.prog 22 #[.slice none 0 0, .agg #[.slice (some ⟨g', 0, none⟩) 1 c']] w fun e w' => e = .returned (.int .i64 (-1)) ∧ Below w.heap.size w w' := by
  go_enter Tryz.func22, Tryz.ntmps22
  go_wp2_with (go_at_call 35; refine (IndexFunc36_0 _ _).mono ?_; rintro e w' ⟨rfl, rfl⟩)
  go_ret
  exact ⟨rfl, below1 _ _⟩
set_option maxRecDepth 100000 in
theorem find1 (ge ce g g' c c' : Nat) (w : World) (h : EntryAt w ge g c) (h' : AtomAt w g' sV) : Calls Tryz.prog 22 #[.slice (some ⟨ge, 0, none⟩) 1 ce, .agg #[.slice (some ⟨g', 0, none⟩) 1 c']] w fun e w' => e = .returned (.int .i64 0) ∧ Below w.heap.size w w' := by
  have hb := below1 w (.cells #[.slice (some ⟨g', 0, none⟩) 1 c'] 35)
  have HA := Aside0.mk (And.intro (h.below hb) (h'.below hb))
  have HB := Aside0.mk hb
  clear h h' hb
  go_enter Tryz.func22, Tryz.ntmps22
  go_wp2_with (go_at_call 35; refine (IndexFunc36_1 w.heap.size ge ce g g' c c' _ (cell_new w _ 35 (0, 0) 0) HA.out.1 HA.out.2).mono ?_; rintro e w1 ⟨rfl, hb1⟩; have HB1 := Aside0.mk (HB.out.trans (hb1.mono HB.out.size)); clear hb1)
  go_ret
  exact ⟨rfl, HB1.out⟩
end Go.Proofs.YtfoojamabjpdpaaGreatDoor.Led
/- Closed runs: a ledger's Check, New, Left. -/
namespace Go.Proofs.YtfoojamabjpdpaaGreatDoor.Led
open Go.RowKit Go.Proofs.YtfoojamabjpdpaaGreatDoorW.PrintWords Go.Proofs.YtfoojamabjpdpaaGreatDoorW.PrintLast Go.Proofs.YtfoojamabjpdpaaGreatDoorW.PrintMore
attribute [local go_sem] max2_int min2_int max_two min_two max_three min_three max_four min_four
attribute [local go_sem] ba_get ba_size List.getElem_toArray List.getElem_cons_zero List.getElem_cons_succ List.size_toArray List.length_cons List.length_nil
set_option linter.unusedVariables false
set_option linter.unusedSimpArgs false
abbrev sAnn : ByteArray := ⟨#[97, 110, 110]⟩
set_option maxRecDepth 100000 in
theorem ledCheck0 (w : World) : Calls Tryz.prog 20 #[.agg #[.string ⟨#[97, 110, 110]⟩, .int .i64 1, .slice none 0 0]] w fun e w' => e = .returned (.int .i64 0) ∧ Below w.heap.size w w' := by
  go_enter Tryz.func20, Tryz.ntmps20
  go_wp2_with (first | (go_at_call 18; refine (isReader_ann _).mono ?_; rintro e w' ⟨rfl, rfl⟩) | (go_at_call 19; go_in))
  refine wp_loop_rounds 3 (rounds_intro ?_)
  go_wp2
  go_ret
  exact ⟨rfl, below1 _ _⟩
set_option maxHeartbeats 8000000 in
set_option maxRecDepth 100000 in
theorem ledCheck1 (ge ce g c : Nat) (w : World) (h : EntryAt w ge g c) (hR : Rules w) : Calls Tryz.prog 20 #[.agg #[.string ⟨#[97, 110, 110]⟩, .int .i64 1, .slice (some ⟨ge, 0, none⟩) 1 ce]] w fun e w' => e = .returned (.int .i64 0) ∧ Below w.heap.size w w' := by
  have hb1 := below1 w (.cells #[.string ⟨#[97, 110, 110]⟩, .int .i64 1, .slice (some ⟨ge, 0, none⟩) 1 ce] 24)
  have hb2 := below2 w (.cells #[.string ⟨#[97, 110, 110]⟩, .int .i64 1, .slice (some ⟨ge, 0, none⟩) 1 ce] 24) (.cells #[.int .i64 1, .slice (some ⟨g, 0, none⟩) 1 c] 39)
  have e0 := (h.below hb1).no
  have e1 := (h.below hb1).p
  have HA := Aside0.mk (And.intro (h.below hb2) (And.intro (hR.below hb2) hb2))
  have l2 : ((w.alloc (.cells #[.string ⟨#[97, 110, 110]⟩, .int .i64 1, .slice (some ⟨ge, 0, none⟩) 1 ce] 24)).alloc (.cells #[.int .i64 1, .slice (some ⟨g, 0, none⟩) 1 c] 39)).cell? ⟨w.heap.size, 2, none⟩ = some (.slice (some ⟨ge, 0, none⟩) 1 ce) := pw_cell_below (below1 _ _) (cell_new w _ 24 (0, 0) 2)
  have x1 := cell_new2 w (.cells #[.string ⟨#[97, 110, 110]⟩, .int .i64 1, .slice (some ⟨ge, 0, none⟩) 1 ce] 24) #[.int .i64 1, .slice (some ⟨g, 0, none⟩) 1 c] 39 1
  clear h hR hb1 hb2
  go_enter Tryz.func20, Tryz.ntmps20
  go_wp2_with (first | (go_at_call 18; refine (isReader_ann _).mono ?_; rintro e w' ⟨rfl, rfl⟩) | (go_at_call 19; go_in))
  refine wp_loop_rounds 3 (rounds_intro ?_)
  go_wp2_with fail
  go_at_call 21
  refine (canonical1 (.inr (.inr rfl)) g c _ HA.out.1.a HA.out.2.1).mono ?_
  rintro e w3 ⟨g', c', rfl, ha3, hb3⟩
  have hq := below1 w3 (.cells #[.slice (some ⟨g', 0, none⟩) 1 c'] 35)
  have l3 := pw_cell_below hq (pw_cell_below hb3 l2)
  have x3 := pw_cell_below hq (pw_cell_below hb3 x1)
  have H3 := Aside0.mk (And.intro ((HA.out.1.below hb3).below hq) (And.intro (ha3.below hq) ((HA.out.2.2.trans (hb3.mono HA.out.2.2.size)).trans (hq.mono (Nat.le_trans HA.out.2.2.size hb3.size)))))
  have p3 := cell_new w3 #[.slice (some ⟨g', 0, none⟩) 1 c'] 35 (0, 0) 0
  clear hq ha3 hb3 l2 x1 e0 e1
  go_wp2_with (go_at_call 16; refine (same1 g' g c' c _ H3.out.2.1 H3.out.1.a).mono ?_; rintro e w' ⟨rfl, n, rfl⟩)
  go_at_call 22
  have hh := find1 ge ce g g' c c' ((w3.alloc (.cells #[.slice (some ⟨g', 0, none⟩) 1 c'] 35)).drewN n) ⟨H3.out.1.no, H3.out.1.p, H3.out.1.a⟩ H3.out.2.1
  refine hh.mono ?_
  clear hh
  rintro e w4 ⟨rfl, hb4⟩
  have H4 := Aside0.mk ((pw_below_drewN H3.out.2.2 n).trans (hb4.mono H3.out.2.2.size))
  clear hb4 l3 x3 p3
  go_wp2
  refine rounds_intro ?_
  go_wp2
  go_ret
  exact ⟨rfl, H4.out⟩
set_option maxRecDepth 100000 in
theorem New_nil (w : World) : Calls Tryz.prog 8 #[.string ⟨#[]⟩, .int .i64 1] w fun e w' => e = .returned (.tuple #[.agg #[.string ⟨#[]⟩, .int .i64 0, .slice none 0 0], .int .i64 1]) ∧ Below w.heap.size w w' := by
  have q0 := cell_new w #[.string ⟨#[]⟩, .int .i64 0, .slice none 0 0] 24 (0, 0) 0
  have q1 := cell_new w #[.string ⟨#[]⟩, .int .i64 0, .slice none 0 0] 24 (0, 0) 1
  have q2 := cell_new w #[.string ⟨#[]⟩, .int .i64 0, .slice none 0 0] 24 (0, 0) 2
  go_enter Tryz.func8, Tryz.ntmps8
  go_wp2_with (first | (go_at_call 18; refine (isReader_nil _).mono ?_; rintro e w' ⟨rfl, rfl⟩) | (go_at_call 19; go_in))
  refine bodyPost_ret (v := .tuple #[.agg #[.string ⟨#[]⟩, .int .i64 0, .slice none 0 0], .int .i64 1]) (by simp [results, Tryz.results8, go_sem, q0, q1, q2]) rfl ⟨rfl, below1 _ _⟩
set_option maxRecDepth 100000 in
theorem New_0 (w : World) : Calls Tryz.prog 8 #[.string ⟨#[97, 110, 110]⟩, .int .i64 0] w fun e w' => e = .returned (.tuple #[.agg #[.string ⟨#[]⟩, .int .i64 0, .slice none 0 0], .int .i64 1]) ∧ Below w.heap.size w w' := by
  have q0 := cell_new w #[.string ⟨#[]⟩, .int .i64 0, .slice none 0 0] 24 (0, 0) 0
  have q1 := cell_new w #[.string ⟨#[]⟩, .int .i64 0, .slice none 0 0] 24 (0, 0) 1
  have q2 := cell_new w #[.string ⟨#[]⟩, .int .i64 0, .slice none 0 0] 24 (0, 0) 2
  go_enter Tryz.func8, Tryz.ntmps8
  go_wp2_with (first | (go_at_call 18; refine (isReader_ann _).mono ?_; rintro e w' ⟨rfl, rfl⟩) | (go_at_call 19; go_in))
  refine bodyPost_ret (v := .tuple #[.agg #[.string ⟨#[]⟩, .int .i64 0, .slice none 0 0], .int .i64 1]) (by simp [results, Tryz.results8, go_sem, q0, q1, q2]) rfl ⟨rfl, below1 _ _⟩
set_option maxRecDepth 100000 in
theorem New_1 (w : World) : Calls Tryz.prog 8 #[.string ⟨#[97, 110, 110]⟩, .int .i64 1] w fun e w' => e = .returned (.tuple #[.agg #[.string ⟨#[97, 110, 110]⟩, .int .i64 1, .slice none 0 0], .int .i64 0]) ∧ Below w.heap.size w w' := by
  have q0 := cell_new w #[.string ⟨#[97, 110, 110]⟩, .int .i64 1, .slice none 0 0] 24 (0, 0) 0
  have q1 := cell_new w #[.string ⟨#[97, 110, 110]⟩, .int .i64 1, .slice none 0 0] 24 (0, 0) 1
  have q2 := cell_new w #[.string ⟨#[97, 110, 110]⟩, .int .i64 1, .slice none 0 0] 24 (0, 0) 2
  go_enter Tryz.func8, Tryz.ntmps8
  go_wp2_with (first | (go_at_call 18; refine (isReader_ann _).mono ?_; rintro e w' ⟨rfl, rfl⟩) | (go_at_call 19; go_in))
  refine bodyPost_ret (v := .tuple #[.agg #[.string ⟨#[97, 110, 110]⟩, .int .i64 1, .slice none 0 0], .int .i64 0]) (by simp [results, Tryz.results8, go_sem, q0, q1, q2]) rfl ⟨rfl, below1 _ _⟩
set_option maxRecDepth 100000 in
theorem Left0 (w : World) : Calls Tryz.prog 12 #[.agg #[.string ⟨#[97, 110, 110]⟩, .int .i64 1, .slice none 0 0]] w fun e w' => e = .returned (.int .i64 1024) ∧ Below w.heap.size w w' := by
  go_enter Tryz.func12, Tryz.ntmps12
  go_wp2
  go_ret
  exact ⟨rfl, below1 _ _⟩
end Go.Proofs.YtfoojamabjpdpaaGreatDoor.Led
