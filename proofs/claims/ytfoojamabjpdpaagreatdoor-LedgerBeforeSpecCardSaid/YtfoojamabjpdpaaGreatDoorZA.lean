import Derived.Deep.DeepCutAuto
import Derived.Test.YtfoojamabjpdpaaGreatDoorZ0
/- sane (4) says true. -/
namespace Go.Proofs.YtfoojamabjpdpaaGreatDoor.Led
open Go.RowKit Go.Proofs.YtfoojamabjpdpaaGreatDoorW.PrintWords Go.Proofs.YtfoojamabjpdpaaGreatDoorW.PrintLast Go.Proofs.YtfoojamabjpdpaaGreatDoorW.PrintMore Go.Proofs.YtfoojamabjpdpaaGreatDoor.PLedgerBeforeSpec
attribute [local go_sem] max2_int min2_int max_two min_two max_three min_three max_four min_four
attribute [local go_sem] ba_get ba_size List.getElem_toArray List.getElem_cons_zero List.getElem_cons_succ List.size_toArray List.length_cons List.length_nil
set_option linter.unusedVariables false
set_option linter.unusedSimpArgs false
theorem at7_frozen {w3 w6 : World} (h6 : Below (V3 w3).heap.size (V3 w3) w6) (o : Obj) : (w6.alloc o).frozen? ⟨w3.heap.size + 1, 2, none⟩ = false := by
  have hs3 := V3_size w3
  have hs6 := h6.size
  have B : Blk (w6.alloc o) (w3.heap.size + 1) 32 (atomA sXx) := ((V3_blk w3).below h6 (by omega)).below (below1 w6 o) (by omega)
  exact B.frozen 2
set_option maxHeartbeats 8000000 in
set_option maxRecDepth 100000 in
theorem Sane4 (w : World) (hR : Rules w) : Calls Tryz.prog 4 #[] w fun e w' => e = .returned (.bool true) ∧ Below w.heap.size w w' := by
  have hu24 := Tryz.underlying24
  have hu35 := Tryz.underlying35
  have hu32 := Tryz.underlying32
  have hu39 := Tryz.underlying39
  have HR := Aside0.mk hR
  clear hR
  go_enter Tryz.func4, Tryz.ntmps4
  go_upto_region 1 with fail
  go_cut [1, 2] (fun s1 s2 wx => s2 = .int .i64 1 ∧ Below w.heap.size w wx)
  case first =>
    go_wp2_with (go_at_call 8; with_reducible refine Calls.mono (New_nil _) ?_; rintro e w1 ⟨rfl, hb1⟩; have HB1 := Aside0.mk (step_below hb1 (.cells ledZ 24)); clear hb1)
    go_meet
    exact ⟨rfl, HB1.out⟩
  case rest =>
  obtain ⟨rfl, hb1⟩ := hcut
  have HB1 := Aside0.mk hb1
  clear hb1
  obtain ⟨w1, rfl⟩ : ∃ x, x = wc := ⟨_, rfl⟩
  go_upto_region 2 with fail
  go_cut [3, 4] (fun s1 s2 wx => s2 = .int .i64 1 ∧ Below w.heap.size w wx)
  case first =>
    go_wp2_with (go_at_call 8; with_reducible refine Calls.mono (New_0 _) ?_; rintro e w2 ⟨rfl, hb2⟩; have HB2 := Aside0.mk (step_below (HB1.out.trans (hb2.mono HB1.out.size)) (.cells ledZ 24)); clear hb2)
    go_meet
    exact ⟨rfl, HB2.out⟩
  case rest =>
  obtain ⟨rfl, hb2⟩ := hcut
  have HB2 := Aside0.mk hb2
  clear hb2
  obtain ⟨w2, rfl⟩ : ∃ x, x = wc := ⟨_, rfl⟩
  go_upto_region 3 with fail
  go_cut [5, 6] (fun s1 s2 wx => ∃ w3, wx = w3.alloc (.cells (led (.slice none 0 0)) 24) ∧ s1 = .pointer (some ⟨w3.heap.size, 0, none⟩) ∧ s2 = .int .i64 0 ∧ Below w.heap.size w w3)
  case first =>
    go_wp2_with (go_at_call 8; with_reducible refine Calls.mono (New_1 _) ?_; rintro e w3 ⟨rfl, hb3⟩; have HB3 := Aside0.mk (HB2.out.trans (hb3.mono HB2.out.size)); clear hb3)
    go_meet
    exact ⟨_, rfl, rfl, rfl, HB3.out⟩
  case rest =>
  obtain ⟨w3, rfl, rfl, rfl, hb3⟩ := hcut
  have HB3 := Aside0.mk hb3
  clear hb3
  go_upto_region 4 with fail
  go_cut [7] (fun s1 wx => wx = V3 w3 ∧ s1 = .pointer (some ⟨w3.heap.size + 2, 0, none⟩))
  case first =>
    go_wp2_with fail
    go_meet
    exact ⟨rfl, rfl⟩
  case rest =>
  obtain ⟨rfl, rfl⟩ := hcut
  have p0 := V3_part w3
  have l0 := V3_led w3 0 _ rfl
  have l1 := V3_led w3 1 _ rfl
  have l2 := V3_led w3 2 _ rfl
  have HB4 := Aside0.mk (HB3.out.trans ((V3_below w3).mono HB3.out.size))
  have HR4 := Aside0.mk (HR.out.below HB4.out)
  go_upto_region 5 with fail
  go_cut [8, 9, 10] (fun s1 s2 s3 wx => ∃ w6 ge ce g c, wx = w6.alloc (.cells (led (.slice (some ⟨ge, 0, none⟩) 1 ce)) 24) ∧ s1 = .pointer (some ⟨w6.heap.size, 0, none⟩) ∧ s2 = .int .i64 1 ∧ s3 = .int .i64 0 ∧ EntryAt w6 ge g c ∧ Below (V3 w3).heap.size (V3 w3) w6)
  case first =>
    go_wp2_with (go_at_call 9; refine Calls.mono (Add0 (s := sXx) (Or.inl rfl) _ _ _ (V3_atom w3) HR4.out) ?_; rintro e w6 ⟨ge, ce, g, c, rfl, hE, hb6⟩; have HE6 := Aside0.mk hE; have HB6 := Aside0.mk hb6; clear hE hb6)
    go_meet
    exact ⟨_, _, _, _, _, rfl, rfl, rfl, rfl, HE6.out, HB6.out⟩
  case rest =>
  obtain ⟨w6, ge, ce, g, c, rfl, rfl, rfl, rfl, hE, hb6⟩ := hcut
  clear p0 l0 l1 l2
  have A7 := at7_start (ce := ce) HB3.out hb6 hE
  have p7 : (w6.alloc (.cells (led (.slice (some ⟨ge, 0, none⟩) 1 ce)) 24)).cell? ⟨w3.heap.size + 2, 0, none⟩ = some (.slice (some ⟨w3.heap.size + 1, 0, none⟩) 1 1) := at7_part hb6 _
  have a7 := at7_var hb6 (.cells (led (.slice (some ⟨ge, 0, none⟩) 1 ce)) 24)
  have f7 := at7_frozen hb6 (.cells (led (.slice (some ⟨ge, 0, none⟩) 1 ce)) 24)
  have HA7 := Aside0.mk A7
  clear A7 hE hb6
  go_upto_region 6 with fail
  go_cut [] (fun wx => At7 w w3 wx ge g c ce w6.heap.size)
  case first =>
    go_wp2_with fail
    go_meet
    exact HA7.out
  case rest =>
  have A7 := hcut
  clear hcut p7 a7 f7 HA7
  obtain ⟨w7, rfl⟩ : ∃ x, x = wc := ⟨_, rfl⟩
  have z0 := A7.t8 0 _ rfl
  have z1 := A7.t8 1 _ rfl
  have z2 := A7.t8 2 _ rfl
  have zp : w7.cell? ⟨w3.heap.size + 2, 0, none⟩ = some (.slice (some ⟨w3.heap.size + 1, 0, none⟩) 1 1) := A7.part
  have HR7 := Aside0.mk (HR.out.below A7.low)
  have HA7 := Aside0.mk A7
  clear A7
  generalize w6.heap.size = n8 at *
  go_upto_region 7 with fail
  go_cut [11, 12, 13] (fun s1 s2 s3 wx => ∃ w8, wx = w8.alloc (.cells (led (.slice (some ⟨ge, 0, none⟩) 1 ce)) 24) ∧ s1 = .pointer (some ⟨w8.heap.size, 0, none⟩) ∧ s2 = .int .i64 1 ∧ s3 = .int .i64 0 ∧ At7 w w3 w8 ge g c ce n8)
  case first =>
    go_wp2_with (go_at_call 9; refine Calls.mono (Add1 (s := sOo) (Or.inr (Or.inl rfl)) _ _ _ _ _ _ _ HA7.out.entry HA7.out.atom HR7.out) ?_; rintro e w8 ⟨rfl, hb8⟩; have HA8 := Aside0.mk (HA7.out.below hb8); clear hb8)
    go_meet
    exact ⟨_, rfl, rfl, rfl, rfl, HA8.out⟩
  case rest =>
  obtain ⟨w8, rfl, rfl, rfl, rfl, A8⟩ := hcut
  have HA9 := Aside0.mk (A8.below (below1 w8 (.cells (led (.slice (some ⟨ge, 0, none⟩) 1 ce)) 24)))
  have y := fun j => cell_new w8 (led (.slice (some ⟨ge, 0, none⟩) 1 ce)) 24 (0, 0) j
  have Y9 := Aside0.mk y
  clear y A8 z0 z1 z2 zp HA7 HR7
  generalize hw9 : w8.alloc (.cells (led (.slice (some ⟨ge, 0, none⟩) 1 ce)) 24) = w9 at *
  clear hw9
  generalize w8.heap.size = n11 at *
  go_upto_region 8 with fail
  go_cut [14, 15, 16, 17] (fun s1 s2 s3 s4 wx => s4 = .int .i64 380 ∧ Below w9.heap.size w9 wx)
  case first =>
    go_wp2_with (go_at_call 10; refine Calls.mono (Decode0 _) ?_; rintro e w10 ⟨rfl, hb10⟩; have HB10 := Aside0.mk hb10; clear hb10)
    go_meet
    exact ⟨rfl, step_below HB10.out _⟩
  case rest =>
  obtain ⟨rfl, hb10⟩ := hcut
  obtain ⟨w10, rfl⟩ : ∃ x, x = wc := ⟨_, rfl⟩
  have A10 := HA9.out.below hb10
  have Y10 := Aside0.mk fun j v (q : (led (.slice (some ⟨ge, 0, none⟩) 1 ce))[j]? = some v) => pw_cell_below hb10 ((Y9.out j).trans q)
  clear HA9 Y9 hb10
  have l0 := A10.t5 0 _ rfl
  have l1 := A10.t5 1 _ rfl
  have l2 := A10.t5 2 _ rfl
  have HA10 := Aside0.mk A10
  clear A10
  go_upto_region 9 with fail
  go_cut [18, 19] (fun s1 s2 wx => s2 = .bool false ∧ Below w10.heap.size w10 wx)
  case first =>
    go_wp2_with (go_at_call 11; refine Calls.mono (Find0 _ _) ?_; rintro e w11 ⟨rfl, hb11⟩; have HB11 := Aside0.mk hb11; clear hb11)
    go_meet
    exact ⟨rfl, HB11.out⟩
  case rest =>
  obtain ⟨rfl, hb11⟩ := hcut
  obtain ⟨w11, rfl⟩ : ∃ x, x = wc := ⟨_, rfl⟩
  have A11 := HA10.out.below hb11
  have Y11 := Aside0.mk fun j v (q : (led (.slice (some ⟨ge, 0, none⟩) 1 ce))[j]? = some v) => pw_cell_below hb11 (Y10.out j v q)
  clear HA10 Y10 hb11 l0 l1 l2
  have l0 := A11.t5 0 _ rfl
  have l1 := A11.t5 1 _ rfl
  have l2 := A11.t5 2 _ rfl
  have HA11 := Aside0.mk A11
  clear A11
  go_upto_region 10 with fail
  go_cut [20] (fun s2 wx => s2 = .bool true ∧ Below w11.heap.size w11 wx)
  case first =>
    go_wp2_with (go_at_call 12; refine Calls.mono (Left0 _) ?_; rintro e w12 ⟨rfl, hb12⟩; have HB12 := Aside0.mk hb12; clear hb12)
    go_meet
    exact ⟨rfl, HB12.out⟩
  case rest =>
  obtain ⟨rfl, hb12⟩ := hcut
  obtain ⟨w12, rfl⟩ : ∃ x, x = wc := ⟨_, rfl⟩
  have A12 := HA11.out.below hb12
  have Y12 := fun j v (q : (led (.slice (some ⟨ge, 0, none⟩) 1 ce))[j]? = some v) => pw_cell_below hb12 (Y11.out j v q)
  clear HA11 Y11 hb12 l0 l1 l2
  have l0 := A12.t5 0 _ rfl
  have l1 := A12.t5 1 _ rfl
  have l2 := A12.t5 2 _ rfl
  have z0 := A12.t8 0 _ rfl
  have z1 := A12.t8 1 _ rfl
  have z2 := A12.t8 2 _ rfl
  have y0 := Y12 0 _ rfl
  have y1 := Y12 1 _ rfl
  have y2 := Y12 2 _ rfl
  have HA12 := Aside0.mk A12
  clear A12 Y12
  go_upto_region 11 with fail
  go_wp2_with (go_at_call 13; refine Calls.mono (Same1 _ _ _ _ _ HA12.out.entry) ?_; rintro e w13 ⟨rfl, hb13⟩; have A13 := HA12.out.below hb13; have k0 := A13.t5 0 _ rfl; have k1 := A13.t5 1 _ rfl; have k2 := A13.t5 2 _ rfl; have x0 := A13.t8 0 _ rfl; have x1 := A13.t8 1 _ rfl; have x2 := A13.t8 2 _ rfl; have HA13 := Aside0.mk A13; clear A13 hb13)
  go_wp2_with (go_at_call 6; refine Calls.mono (Before6nil _ _ _) ?_; rintro e w14 ⟨rfl, hb14⟩; have HB14 := Aside0.mk (HA13.out.low.trans (hb14.mono HA13.out.low.size)); clear hb14)
  go_ret
  exact ⟨rfl, HB14.out⟩
end Go.Proofs.YtfoojamabjpdpaaGreatDoor.Led
