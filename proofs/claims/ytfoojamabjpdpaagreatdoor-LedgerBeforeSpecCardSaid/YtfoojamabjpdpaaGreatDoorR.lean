import Derived.Test.YtfoojamabjpdpaaGreatDoorO
/- Closed runs: Add. -/
namespace Go.Proofs.YtfoojamabjpdpaaGreatDoor.Led
open Go.RowKit Go.Proofs.YtfoojamabjpdpaaGreatDoorW.PrintWords Go.Proofs.YtfoojamabjpdpaaGreatDoorW.PrintLast Go.Proofs.YtfoojamabjpdpaaGreatDoorW.PrintMore
attribute [local go_sem] max2_int min2_int max_two min_two max_three min_three max_four min_four
attribute [local go_sem] ba_get ba_size List.getElem_toArray List.getElem_cons_zero List.getElem_cons_succ List.size_toArray List.length_cons List.length_nil
set_option linter.unusedVariables false
set_option linter.unusedSimpArgs false
theorem info39 : (Tryz.prog.info? 39).map (fun i => (i.zero, i.size, i.bytes)) = some (some (.agg #[.int .i64 0, .slice none 0 0]), 2, 32) := by kernel_rfl
/-- An entry laid behind none. -/
theorem app_entry (W : World) (g c : Nat) : ∃ ge cap W' cur, (Builtin.append_ #[22, 22] 22 #[.slice none 0 0, .slice (some ⟨W.heap.size, 0, none⟩) 1 1]).run Tryz.prog (W.alloc (.cells #[.int .i64 1, .slice (some ⟨g, 0, none⟩) 1 c] 39)) = .ok (.slice (some ⟨ge, 0, none⟩) 1 cap) W' ∧ W'.cell? ⟨ge, 0, none⟩ = some (.int .i64 1) ∧ W'.cell? ⟨ge, 1, none⟩ = some (.slice (some ⟨g, 0, none⟩) 1 c) ∧ Blk W' ge 39 cur ∧ Below W.heap.size W W' := by
  obtain ⟨ge, cap, cur, W', hr, hg, htk, hc, hle, hb⟩ := append_nil (W := W.alloc (.cells #[.int .i64 1, .slice (some ⟨g, 0, none⟩) 1 c] 39)) (t := 22) (e := 39) Tryz.underlying22 info39 rfl (by decide) ⟨W.heap.size, 0, none⟩ 1 1 [.int .i64 1, .slice (some ⟨g, 0, none⟩) 1 c] (by decide) rfl
    (fun j u hu => by
      rw [add_plain]
      match j, hu with
      | 0, hu => cases hu; exact cell_new W _ 39 (0, 0) 0
      | 1, hu => cases hu; exact cell_new W _ 39 (0, 0) 1
      | j + 2, hu => cases hu) (by intro u hu; simp at hu; rcases hu with rfl | rfl <;> rfl) (by simp only [maxLen]; omega) (by decide)
  have k : ∀ i, i < 2 → W'.cell? ⟨ge, i, none⟩ = ([Value.int .i64 1, .slice (some ⟨g, 0, none⟩) 1 c] : List Value)[i]? := fun i hi => by
    rw [cell_of_row W' ge i cur 39 (0, 0) hg, ← Array.getElem?_toList, ← htk, List.getElem?_take_of_lt (by omega)]
  exact ⟨ge, cap, W', cur, hr, k 0 (by decide), k 1 (by decide), hg, (below1 W _).trans (hb.mono (by simp))⟩
theorem EntryAt.far {W : World} {ge g c : Nat} (h : EntryAt W ge g c) {p : Addr} (h1 : ge ≠ p.block) (h2 : g ≠ p.block) (u : Value) : EntryAt (W.setCell p u) ge g c :=
  ⟨(World.cell?_of_block (a := ⟨ge, 0, none⟩) (Below.heap_setCell W p u ge h1)).trans h.no, (World.cell?_of_block (a := ⟨ge, 1, none⟩) (Below.heap_setCell W p u ge h1)).trans h.p, h.a.far h2 u⟩
abbrev led (v : Value) : Array Value := #[.string ⟨#[97, 110, 110]⟩, .int .i64 1, v]
abbrev ledZ : Array Value := #[.string ⟨#[]⟩, .int .i64 0, .slice none 0 0]
set_option maxHeartbeats 8000000 in
set_option maxRecDepth 100000 in
theorem Add0 {s : ByteArray} (hs : IsV s) (g c : Nat) (w : World) (ha : AtomAt w g s) (hR : Rules w) : Calls Tryz.prog 9 #[.agg #[.string ⟨#[97, 110, 110]⟩, .int .i64 1, .slice none 0 0], .agg #[.slice (some ⟨g, 0, none⟩) 1 c]] w fun e w' => ∃ ge ce g' c', e = .returned (.tuple #[.agg #[.string ⟨#[97, 110, 110]⟩, .int .i64 1, .slice (some ⟨ge, 0, none⟩) 1 ce], .int .i64 1, .int .i64 0]) ∧ EntryAt w' ge g' c' ∧ Below w.heap.size w w' := by
  have hb3 := below3 w (.cells (led (.slice none 0 0)) 24) (.cells #[.slice (some ⟨g, 0, none⟩) 1 c] 35) (.cells ledZ 24)
  have L1 : Blk (((w.alloc (.cells (led (.slice none 0 0)) 24)).alloc (.cells #[.slice (some ⟨g, 0, none⟩) 1 c] 35)).alloc (.cells ledZ 24)) w.heap.size 24 (led (.slice none 0 0)) := (heap_alloc_old _ _ (by simp <;> omega)).trans ((heap_alloc_old _ _ (by simp)).trans (heap_alloc_new w _))
  have P1 : Blk (((w.alloc (.cells (led (.slice none 0 0)) 24)).alloc (.cells #[.slice (some ⟨g, 0, none⟩) 1 c] 35)).alloc (.cells ledZ 24)) (w.heap.size + 1) 35 #[.slice (some ⟨g, 0, none⟩) 1 c] := (heap_alloc_old _ _ (by simp)).trans (blk_new2 w _ _ _)
  have X1 : Blk (((w.alloc (.cells (led (.slice none 0 0)) 24)).alloc (.cells #[.slice (some ⟨g, 0, none⟩) 1 c] 35)).alloc (.cells ledZ 24)) (w.heap.size + 1 + 1) 24 ledZ := new_at _ _ _ (by simp)
  have H1 := Aside0.mk (And.intro L1 (And.intro P1 (And.intro X1 (And.intro (ha.below hb3) (And.intro (hR.below hb3) hb3)))))
  clear ha hR hb3 L1 P1 X1
  go_enter Tryz.func9, Tryz.ntmps9
  go_wp2_with fail
  go_at_call 20
  refine (ledCheck0 _).mono ?_
  rintro e w1 ⟨rfl, hb1⟩
  have H2 := Aside0.mk (And.intro (H1.out.1.below hb1 H1.out.1.lt) (And.intro (H1.out.2.1.below hb1 H1.out.2.1.lt) (And.intro (H1.out.2.2.1.below hb1 H1.out.2.2.1.lt) (And.intro (H1.out.2.2.2.1.below hb1) (And.intro (H1.out.2.2.2.2.1.below hb1) (H1.out.2.2.2.2.2.trans (hb1.mono H1.out.2.2.2.2.2.size)))))))
  have p0 := H2.out.2.1.cell 0
  clear hb1
  go_wp2_with fail
  go_at_call 21
  refine (canonical1 hs g c _ H2.out.2.2.2.1 H2.out.2.2.2.2.1).mono ?_
  rintro e w2 ⟨g', c', rfl, ha2, hb2⟩
  have L3 := H2.out.1.below hb2 H2.out.1.lt
  have P3 := H2.out.2.1.below hb2 H2.out.2.1.lt
  have X3 := H2.out.2.2.1.below hb2 H2.out.2.2.1.lt
  have B3 := H2.out.2.2.2.2.2.trans (hb2.mono H2.out.2.2.2.2.2.size)
  have p3 := P3.cell 0
  have pf := P3.frozen 0
  have P4 := P3.set_ 0 (.slice (some ⟨g', 0, none⟩) 1 c')
  have L4 := L3.far (p := ⟨w.heap.size + 1, 0, none⟩) (by simp) (.slice (some ⟨g', 0, none⟩) 1 c')
  have X4 := X3.far (p := ⟨w.heap.size + 1, 0, none⟩) (by simp) (.slice (some ⟨g', 0, none⟩) 1 c')
  have hne : g' ≠ w.heap.size + 1 := by
    rintro rfl
    have h1 := ha2.1
    rw [p3] at h1
    cases h1
  have H4 := Aside0.mk (And.intro L4 (And.intro P4 (And.intro X4 (And.intro (ha2.far (p := ⟨w.heap.size + 1, 0, none⟩) hne (.slice (some ⟨g', 0, none⟩) 1 c')) (B3.setCell (p := ⟨w.heap.size + 1, 0, none⟩) (by simp) (.slice (some ⟨g', 0, none⟩) 1 c'))))))
  have q0 := P4.cell 0
  have l2 := L4.cell 2
  clear ha2 hb2 L3 P3 X3 B3 P4 L4 X4 hne
  go_wp2_with fail
  go_at_call 22
  refine (find0 g' c' _).mono ?_
  rintro e w5 ⟨rfl, hb5⟩
  have H5 := Aside0.mk (And.intro (H4.out.1.below hb5 H4.out.1.lt) (And.intro (H4.out.2.1.below hb5 H4.out.2.1.lt) (And.intro (H4.out.2.2.1.below hb5 H4.out.2.2.1.lt) (And.intro (H4.out.2.2.2.1.below hb5) (H4.out.2.2.2.2.trans (hb5.mono H4.out.2.2.2.2.size))))))
  have m0 := H5.out.1.cell 0
  have m1 := H5.out.1.cell 1
  have m2 := H5.out.1.cell 2
  clear hb5 p0 p3 pf q0 l2
  go_wp2_with fail
  go_at_call 12
  refine (Left0 _).mono ?_
  rintro e w6 ⟨rfl, hb6⟩
  have H6 := Aside0.mk (And.intro (H5.out.1.below hb6 H5.out.1.lt) (And.intro (H5.out.2.1.below hb6 H5.out.2.1.lt) (And.intro (H5.out.2.2.1.below hb6 H5.out.2.2.1.lt) (And.intro (H5.out.2.2.2.1.below hb6) (H5.out.2.2.2.2.trans (hb6.mono H5.out.2.2.2.2.size))))))
  have k0 := H6.out.1.cell 0
  have k1 := H6.out.1.cell 1
  have k2 := H6.out.1.cell 2
  have kf := H6.out.1.frozen 2
  have k3 := H6.out.2.1.cell 0
  clear hb6 m0 m1 m2
  go_wp2
  obtain ⟨ge, cap, w7, cur7, hrun, he0, he1, hg7, hb7⟩ := app_entry w6.drew g' c'
  have y2 := (H6.out.1.below (below1 w6 (.cells #[.int .i64 1, .slice (some ⟨g', 0, none⟩) 1 c'] 39)) H6.out.1.lt).cell 2
  have L7 := (show Blk w6.drew w.heap.size 24 (led (.slice none 0 0)) from H6.out.1).below hb7 H6.out.1.lt
  have X7 := (show Blk w6.drew (w.heap.size + 1 + 1) 24 ledZ from H6.out.2.2.1).below hb7 H6.out.2.2.1.lt
  have A7 := (show AtomAt w6.drew g' sV from H6.out.2.2.2.1).below hb7
  have B7 := (pw_below_drewN H6.out.2.2.2.2 1).trans (hb7.mono H6.out.2.2.2.2.size)
  have lf := L7.frozen 2
  have y7 := L7.cell 2
  have H7 := Aside0.mk (And.intro L7 (And.intro X7 (And.intro (EntryAt.mk he0 he1 A7) (And.intro hg7 B7))))
  clear he0 he1 hg7 hb7 L7 X7 A7 B7
  go_region_law (first
    | (refine step_append_run (by rfl) (.tmp 53) (.tmp 57) 22 22 (by rfl) (by rfl) _ _ _ (by rfl) (by rfl) hrun ?_))
  all_goals
    clear hrun y2 lf y7 k0 k1 k2 kf k3
    obtain ⟨L7, X7, E7, G7, B7⟩ := H7.out
    have L8 := L7.set_ 2 (.slice (some ⟨ge, 0, none⟩) 1 cap)
    have X8 := X7.far (p := ⟨w.heap.size, 2, none⟩) (by simp <;> omega) (.slice (some ⟨ge, 0, none⟩) 1 cap)
    have q0 := L8.cell 0
    have q1 := L8.cell 1
    have q2 := L8.cell 2
    have x0 := X8.cell 0
    have x1 := X8.cell 1
    have x2 := X8.cell 2
    have f0 := X8.frozen 0
    have f1 := X8.frozen 1
    have f2 := X8.frozen 2
    have X9 := ((X8.set_ 0 (.string ⟨#[97, 110, 110]⟩)).set_ 1 (.int .i64 1)).set_ 2 (.slice (some ⟨ge, 0, none⟩) 1 cap)
    have z0 := X9.cell 0
    have z1 := X9.cell 1
    have z2 := X9.cell 2
    have n1 : ge ≠ w.heap.size := by
      rintro rfl
      have h1 := E7.no
      have h2 := L7.cell 0
      rw [h1] at h2
      cases h2
    have n2 : g' ≠ w.heap.size := by
      rintro rfl
      have h1 := E7.a.1
      have h2 := L7.cell 0
      rw [h1] at h2
      cases h2
    have n3 : ge ≠ w.heap.size + 1 + 1 := by
      rintro rfl
      have h1 := E7.no
      have h2 := X7.cell 0
      rw [h1] at h2
      cases h2
    have n4 : g' ≠ w.heap.size + 1 + 1 := by
      rintro rfl
      have h1 := E7.a.1
      have h2 := X7.cell 0
      rw [h1] at h2
      cases h2
    have HE := Aside0.mk (And.intro ((((E7.far (p := ⟨w.heap.size, 2, none⟩) n1 n2 (.slice (some ⟨ge, 0, none⟩) 1 cap)).far (p := ⟨w.heap.size + 1 + 1, 0, none⟩) n3 n4 (.string ⟨#[97, 110, 110]⟩)).far (p := ⟨w.heap.size + 1 + 1, 1, none⟩) n3 n4 (.int .i64 1)).far (p := ⟨w.heap.size + 1 + 1, 2, none⟩) n3 n4 (.slice (some ⟨ge, 0, none⟩) 1 cap)) ((((B7.setCell (p := ⟨w.heap.size, 2, none⟩) (by simp) (.slice (some ⟨ge, 0, none⟩) 1 cap)).setCell (p := ⟨w.heap.size + 1 + 1, 0, none⟩) (by simp <;> omega) (.string ⟨#[97, 110, 110]⟩)).setCell (p := ⟨w.heap.size + 1 + 1, 1, none⟩) (by simp <;> omega) (.int .i64 1)).setCell (p := ⟨w.heap.size + 1 + 1, 2, none⟩) (by simp <;> omega) (.slice (some ⟨ge, 0, none⟩) 1 cap)))
    clear L7 X7 E7 G7 B7 L8 X8 X9 n1 n2 n3 n4
    go_wp2
    refine bodyPost_ret (v := .tuple #[.agg #[.string ⟨#[97, 110, 110]⟩, .int .i64 1, .slice (some ⟨ge, 0, none⟩) 1 cap], .int .i64 1, .int .i64 0]) (by simp [results, Tryz.results9, go_sem, z0, z1, z2]) rfl ?_
    exact ⟨ge, cap, g', c', rfl, HE.out.1, HE.out.2⟩
end Go.Proofs.YtfoojamabjpdpaaGreatDoor.Led
/- Closed runs: Add of an entry that is there. -/
namespace Go.Proofs.YtfoojamabjpdpaaGreatDoor.Led
open Go.RowKit Go.Proofs.YtfoojamabjpdpaaGreatDoorW.PrintWords Go.Proofs.YtfoojamabjpdpaaGreatDoorW.PrintLast Go.Proofs.YtfoojamabjpdpaaGreatDoorW.PrintMore
attribute [local go_sem] max2_int min2_int max_two min_two max_three min_three max_four min_four
attribute [local go_sem] ba_get ba_size List.getElem_toArray List.getElem_cons_zero List.getElem_cons_succ List.size_toArray List.length_cons List.length_nil
set_option linter.unusedVariables false
set_option linter.unusedSimpArgs false
set_option maxHeartbeats 8000000 in
set_option maxRecDepth 100000 in
theorem Add1 {s : ByteArray} (hs : IsV s) (ge ce g1 c1 g c : Nat) (w : World) (hE : EntryAt w ge g1 c1) (ha : AtomAt w g s) (hR : Rules w) : Calls Tryz.prog 9 #[.agg #[.string ⟨#[97, 110, 110]⟩, .int .i64 1, .slice (some ⟨ge, 0, none⟩) 1 ce], .agg #[.slice (some ⟨g, 0, none⟩) 1 c]] w fun e w' => e = .returned (.tuple #[.agg #[.string ⟨#[97, 110, 110]⟩, .int .i64 1, .slice (some ⟨ge, 0, none⟩) 1 ce], .int .i64 1, .int .i64 0]) ∧ Below w.heap.size w w' := by
  have hb3 := below3 w (.cells (led (.slice (some ⟨ge, 0, none⟩) 1 ce)) 24) (.cells #[.slice (some ⟨g, 0, none⟩) 1 c] 35) (.cells ledZ 24)
  have L1 : Blk (((w.alloc (.cells (led (.slice (some ⟨ge, 0, none⟩) 1 ce)) 24)).alloc (.cells #[.slice (some ⟨g, 0, none⟩) 1 c] 35)).alloc (.cells ledZ 24)) w.heap.size 24 (led (.slice (some ⟨ge, 0, none⟩) 1 ce)) := (heap_alloc_old _ _ (by simp <;> omega)).trans ((heap_alloc_old _ _ (by simp)).trans (heap_alloc_new w _))
  have P1 : Blk (((w.alloc (.cells (led (.slice (some ⟨ge, 0, none⟩) 1 ce)) 24)).alloc (.cells #[.slice (some ⟨g, 0, none⟩) 1 c] 35)).alloc (.cells ledZ 24)) (w.heap.size + 1) 35 #[.slice (some ⟨g, 0, none⟩) 1 c] := (heap_alloc_old _ _ (by simp)).trans (blk_new2 w _ _ _)
  have X1 : Blk (((w.alloc (.cells (led (.slice (some ⟨ge, 0, none⟩) 1 ce)) 24)).alloc (.cells #[.slice (some ⟨g, 0, none⟩) 1 c] 35)).alloc (.cells ledZ 24)) (w.heap.size + 1 + 1) 24 ledZ := new_at _ _ _ (by simp)
  have H1 := Aside0.mk (And.intro L1 (And.intro P1 (And.intro X1 (And.intro (ha.below hb3) (And.intro (hR.below hb3) (And.intro (hE.below hb3) hb3))))))
  clear ha hR hE hb3 L1 P1 X1
  go_enter Tryz.func9, Tryz.ntmps9
  go_wp2_with fail
  go_at_call 20
  refine (ledCheck1 ge ce g1 c1 _ H1.out.2.2.2.2.2.1 H1.out.2.2.2.2.1).mono ?_
  rintro e w1 ⟨rfl, hb1⟩
  have H2 := Aside0.mk (And.intro (H1.out.1.below hb1 H1.out.1.lt) (And.intro (H1.out.2.1.below hb1 H1.out.2.1.lt) (And.intro (H1.out.2.2.1.below hb1 H1.out.2.2.1.lt) (And.intro (H1.out.2.2.2.1.below hb1) (And.intro (H1.out.2.2.2.2.1.below hb1) (And.intro (H1.out.2.2.2.2.2.1.below hb1) (H1.out.2.2.2.2.2.2.trans (hb1.mono H1.out.2.2.2.2.2.2.size))))))))
  have p0 := H2.out.2.1.cell 0
  clear hb1
  go_wp2_with fail
  go_at_call 21
  refine (canonical1 hs g c _ H2.out.2.2.2.1 H2.out.2.2.2.2.1).mono ?_
  rintro e w2 ⟨g', c', rfl, ha2, hb2⟩
  have L3 := H2.out.1.below hb2 H2.out.1.lt
  have P3 := H2.out.2.1.below hb2 H2.out.2.1.lt
  have X3 := H2.out.2.2.1.below hb2 H2.out.2.2.1.lt
  have B3 := H2.out.2.2.2.2.2.2.trans (hb2.mono H2.out.2.2.2.2.2.2.size)
  have E3 := H2.out.2.2.2.2.2.1.below hb2
  have p3 := P3.cell 0
  have pf := P3.frozen 0
  have P4 := P3.set_ 0 (.slice (some ⟨g', 0, none⟩) 1 c')
  have L4 := L3.far (p := ⟨w.heap.size + 1, 0, none⟩) (by simp) (.slice (some ⟨g', 0, none⟩) 1 c')
  have X4 := X3.far (p := ⟨w.heap.size + 1, 0, none⟩) (by simp) (.slice (some ⟨g', 0, none⟩) 1 c')
  have hne : g' ≠ w.heap.size + 1 := by
    rintro rfl
    have h1 := ha2.1
    rw [p3] at h1
    cases h1
  have n1 : ge ≠ w.heap.size + 1 := by
    rintro rfl
    have h1 := E3.no
    rw [p3] at h1
    cases h1
  have n2 : g1 ≠ w.heap.size + 1 := by
    rintro rfl
    have h1 := E3.a.1
    rw [p3] at h1
    cases h1
  have H4 := Aside0.mk (And.intro L4 (And.intro P4 (And.intro X4 (And.intro (ha2.far (p := ⟨w.heap.size + 1, 0, none⟩) hne (.slice (some ⟨g', 0, none⟩) 1 c')) (And.intro (E3.far (p := ⟨w.heap.size + 1, 0, none⟩) n1 n2 (.slice (some ⟨g', 0, none⟩) 1 c')) (B3.setCell (p := ⟨w.heap.size + 1, 0, none⟩) (by simp) (.slice (some ⟨g', 0, none⟩) 1 c')))))))
  have q0 := P4.cell 0
  have l2 := L4.cell 2
  clear ha2 hb2 L3 P3 X3 B3 P4 L4 X4 hne n1 n2 E3
  go_wp2_with fail
  go_at_call 22
  refine (find1 ge ce g1 g' c1 c' _ H4.out.2.2.2.2.1 H4.out.2.2.2.1).mono ?_
  rintro e w5 ⟨rfl, hb5⟩
  have H5 := Aside0.mk (And.intro (H4.out.1.below hb5 H4.out.1.lt) (And.intro (H4.out.2.1.below hb5 H4.out.2.1.lt) (And.intro (H4.out.2.2.1.below hb5 H4.out.2.2.1.lt) (And.intro (H4.out.2.2.2.2.1.below hb5) (H4.out.2.2.2.2.2.trans (hb5.mono H4.out.2.2.2.2.2.size))))))
  have m0 := H5.out.1.cell 0
  have m1 := H5.out.1.cell 1
  have m2 := H5.out.1.cell 2
  clear hb5 p0 p3 pf q0 l2
  have e0 := H5.out.2.2.2.1.no
  have x0 := H5.out.2.2.1.cell 0
  have x1 := H5.out.2.2.1.cell 1
  have x2 := H5.out.2.2.1.cell 2
  have f0 := H5.out.2.2.1.frozen 0
  have f1 := H5.out.2.2.1.frozen 1
  have f2 := H5.out.2.2.1.frozen 2
  have n3 : ge ≠ w.heap.size + 1 + 1 := by
    rintro rfl
    rw [e0] at x0
    cases x0
  have e9 : (w5.setCell ⟨w.heap.size + 1 + 1, 0, none⟩ (.string ⟨#[97, 110, 110]⟩)).cell? ⟨ge, 0, none⟩ = some (.int .i64 1) := (World.cell?_of_block (a := ⟨ge, 0, none⟩) (Below.heap_setCell w5 ⟨w.heap.size + 1 + 1, 0, none⟩ _ ge n3)).trans e0
  clear n3
  have X9 := ((H5.out.2.2.1.set_ 0 (.string ⟨#[97, 110, 110]⟩)).set_ 1 (.int .i64 1)).set_ 2 (.slice (some ⟨ge, 0, none⟩) 1 ce)
  have z0 := X9.cell 0
  have z1 := X9.cell 1
  have z2 := X9.cell 2
  have HE := Aside0.mk (pw_below_drewN (((H5.out.2.2.2.2.setCell (p := ⟨w.heap.size + 1 + 1, 0, none⟩) (by simp <;> omega) (.string ⟨#[97, 110, 110]⟩)).setCell (p := ⟨w.heap.size + 1 + 1, 1, none⟩) (by simp <;> omega) (.int .i64 1)).setCell (p := ⟨w.heap.size + 1 + 1, 2, none⟩) (by simp <;> omega) (.slice (some ⟨ge, 0, none⟩) 1 ce)) 1)
  clear X9
  go_wp2
  go_region
  all_goals
    go_wp2
    refine bodyPost_ret (v := .tuple #[.agg #[.string ⟨#[97, 110, 110]⟩, .int .i64 1, .slice (some ⟨ge, 0, none⟩) 1 ce], .int .i64 1, .int .i64 0]) (by simp [results, Tryz.results9, go_sem, z0, z1, z2]) rfl ?_
    exact ⟨rfl, HE.out⟩
end Go.Proofs.YtfoojamabjpdpaaGreatDoor.Led
/- Closed runs: Find of the part without atoms. -/
namespace Go.Proofs.YtfoojamabjpdpaaGreatDoor.Led
open Go.RowKit Go.Proofs.YtfoojamabjpdpaaGreatDoorW.PrintWords Go.Proofs.YtfoojamabjpdpaaGreatDoorW.PrintLast Go.Proofs.YtfoojamabjpdpaaGreatDoorW.PrintMore
attribute [local go_sem] max2_int min2_int max_two min_two max_three min_three max_four min_four
attribute [local go_sem] ba_get ba_size List.getElem_toArray List.getElem_cons_zero List.getElem_cons_succ List.size_toArray List.length_cons List.length_nil
set_option linter.unusedVariables false
set_option linter.unusedSimpArgs false
set_option maxHeartbeats 8000000 in
set_option maxRecDepth 100000 in
theorem checkForm0 (gp cp : Nat) (w : World) (h : w.cell? ⟨gp, 0, none⟩ = some (.slice none 0 0)) : Calls Tryz.prog 52 #[.agg #[.slice none 0 0, .slice (some ⟨gp, 0, none⟩) 1 cp]] w fun e w' => e = .returned (.int .i64 210) ∧ Below w.heap.size w w' := by
  have hb1 := below1 w (.cells #[.slice none 0 0, .slice (some ⟨gp, 0, none⟩) 1 cp] 67)
  have hp1 := pw_cell_below hb1 h
  clear hb1 h
  go_enter Tryz.func52, Tryz.ntmps52
  go_wp2_with (go_at_call 78; go_in)
  refine wp_loop_rounds 3 (rounds_intro ?_)
  go_wp2_with (go_at_call 78; go_in)
  go_ret
  exact ⟨rfl, below2 _ _ _⟩
set_option maxRecDepth 100000 in
theorem Check0 (gp cp : Nat) (w : World) (h : w.cell? ⟨gp, 0, none⟩ = some (.slice none 0 0)) : Calls Tryz.prog 32 #[.agg #[.slice none 0 0, .slice (some ⟨gp, 0, none⟩) 1 cp], .slice none 0 0] w fun e w' => e = .returned (.int .i64 210) ∧ Below w.heap.size w w' := by
  have hb1 := below1 w (.cells #[.slice none 0 0, .slice (some ⟨gp, 0, none⟩) 1 cp] 67)
  have hp1 := pw_cell_below hb1 h
  have HB := Aside0.mk hb1
  clear hb1 h
  go_enter Tryz.func32, Tryz.ntmps32
  go_wp2_with fail
  go_at_call 52
  refine (checkForm0 gp cp _ hp1).mono ?_
  rintro e w1 ⟨rfl, hb⟩
  have HB1 := Aside0.mk (HB.out.trans (hb.mono HB.out.size))
  clear hb hp1
  go_wp2
  go_ret
  exact ⟨rfl, HB1.out⟩
set_option maxRecDepth 100000 in
theorem alone0 (w : World) : Calls Tryz.prog 33 #[.agg #[.slice none 0 0]] w fun e w' => ∃ gp, e = .returned (.agg #[.slice none 0 0, .slice (some ⟨gp, 0, none⟩) 1 1]) ∧ w'.cell? ⟨gp, 0, none⟩ = some (.slice none 0 0) ∧ Below w.heap.size w w' := by
  go_enter Tryz.func33, Tryz.ntmps33
  go_wp2
  have e0 : (((w.alloc (.cells #[.slice none 0 0] 35)).alloc (.cells #[.slice none 0 0, .slice (some ⟨w.heap.size + 1 + 1, 0, none⟩) 1 1] 67)).alloc (.cells #[.slice none 0 0] 35)).cell? ⟨w.heap.size + 1, 0, none⟩ = some (.slice none 0 0) := pw_cell_below (below1 _ _) (cell_new2 _ _ _ _ 0)
  have e1 : (((w.alloc (.cells #[.slice none 0 0] 35)).alloc (.cells #[.slice none 0 0, .slice (some ⟨w.heap.size + 1 + 1, 0, none⟩) 1 1] 67)).alloc (.cells #[.slice none 0 0] 35)).cell? ⟨w.heap.size + 1, 1, none⟩ = some (.slice (some ⟨w.heap.size + 1 + 1, 0, none⟩) 1 1) := pw_cell_below (below1 _ _) (cell_new2 _ _ _ _ 1)
  refine bodyPost_ret (v := .agg #[.slice none 0 0, .slice (some ⟨w.heap.size + 1 + 1, 0, none⟩) 1 1]) (by simp [results, Tryz.results33, go_sem, e0, e1]) rfl ?_
  exact ⟨_, rfl, cell_new3 _ _ _ _ _ 0, below3 _ _ _ _⟩
set_option maxHeartbeats 8000000 in
set_option maxRecDepth 100000 in
theorem canonical0 (w : World) : Calls Tryz.prog 21 #[.agg #[.slice none 0 0]] w fun e w' => e = .returned (.tuple #[.agg #[.slice none 0 0], .int .i64 210]) ∧ Below w.heap.size w w' := by
  have HB := Aside0.mk (below2 w (.cells #[.slice none 0 0] 35) (.cells #[.slice none 0 0] 35))
  have HX := Aside0.mk (blk_new2 w (.cells #[.slice none 0 0] 35) 35 #[.slice none 0 0])
  have p0 : ((w.alloc (.cells #[.slice none 0 0] 35)).alloc (.cells #[.slice none 0 0] 35)).cell? ⟨w.heap.size, 0, none⟩ = some (.slice none 0 0) := pw_cell_below (below1 _ _) (cell_new w _ 35 (0, 0) 0)
  go_enter Tryz.func21, Tryz.ntmps21
  go_wp2_with fail
  go_at_call 33
  refine (alone0 _).mono ?_
  rintro e w1 ⟨gp, rfl, hp1, hb1⟩
  have HB1 := Aside0.mk (HB.out.trans (hb1.mono HB.out.size))
  have HX1 := Aside0.mk (HX.out.below hb1 HX.out.lt)
  have HP1 := Aside0.mk hp1
  clear hp1 hb1 p0
  go_wp2_with fail
  go_at_call 32
  refine (Check0 gp 1 _ HP1.out).mono ?_
  rintro e w2 ⟨rfl, hb2⟩
  have hx2 := HX1.out.below hb2 HX1.out.lt
  have x0 := hx2.cell 0
  have xf := hx2.frozen 0
  have x6 := (hx2.set_ 0 (.slice none 0 0)).cell 0
  have HE := Aside0.mk ((HB1.out.trans (hb2.mono HB1.out.size)).setCell (p := ⟨w.heap.size + 1, 0, none⟩) (by simp) (.slice none 0 0))
  clear hx2 hb2
  go_wp2
  refine bodyPost_ret (v := .tuple #[.agg #[.slice none 0 0], .int .i64 210]) (by simp [results, Tryz.results21, go_sem, x6]) rfl ?_
  exact ⟨rfl, HE.out⟩
set_option maxHeartbeats 8000000 in
set_option maxRecDepth 100000 in
theorem Find0 (v : Value) (w : World) : Calls Tryz.prog 11 #[.agg #[.string ⟨#[97, 110, 110]⟩, .int .i64 1, v], .agg #[.slice none 0 0]] w fun e w' => e = .returned (.tuple #[.int .i64 0, .bool false]) ∧ Below w.heap.size w w' := by
  have HB := Aside0.mk (below2 w (.cells #[.string ⟨#[97, 110, 110]⟩, .int .i64 1, v] 24) (.cells #[.slice none 0 0] 35))
  have HX := Aside0.mk (blk_new2 w (.cells #[.string ⟨#[97, 110, 110]⟩, .int .i64 1, v] 24) 35 #[.slice none 0 0])
  go_enter Tryz.func11, Tryz.ntmps11
  go_wp2_with fail
  go_at_call 21
  refine (canonical0 _).mono ?_
  rintro e w1 ⟨rfl, hb⟩
  have hx := HX.out.below hb HX.out.lt
  have x0 := hx.cell 0
  have xf := hx.frozen 0
  have HE := Aside0.mk ((HB.out.trans (hb.mono HB.out.size)).setCell (p := ⟨w.heap.size + 1, 0, none⟩) (by simp) (.slice none 0 0))
  clear hx hb
  go_wp2
  go_ret2
  exact ⟨rfl, HE.out⟩
end Go.Proofs.YtfoojamabjpdpaaGreatDoor.Led
