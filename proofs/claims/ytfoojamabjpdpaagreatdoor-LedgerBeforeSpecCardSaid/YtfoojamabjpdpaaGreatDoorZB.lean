import Derived.Test.YtfoojamabjpdpaaGreatDoorZA
/- The law (3) says true. -/
namespace Go.Proofs.YtfoojamabjpdpaaGreatDoor.Led
open Go.RowKit Go.Proofs.YtfoojamabjpdpaaGreatDoorW.PrintWords Go.Proofs.YtfoojamabjpdpaaGreatDoorW.PrintLast Go.Proofs.YtfoojamabjpdpaaGreatDoorW.PrintMore Go.Proofs.YtfoojamabjpdpaaGreatDoor.PLedgerBeforeSpec
attribute [local go_sem] max2_int min2_int max_two min_two max_three min_three max_four min_four
attribute [local go_sem] ba_get ba_size List.getElem_toArray List.getElem_cons_zero List.getElem_cons_succ List.size_toArray List.length_cons List.length_nil
set_option linter.unusedVariables false
set_option linter.unusedSimpArgs false
abbrev ledV (a : ByteArray) (n : Int) (v : Value) : Array Value := #[.string a, .int .i64 n, v]
theorem keep_cells {w0 : World} {x y : Nat} {X0 X1 X2 Y0 Y1 Y2 : Value} {W W' : World} (h : W.cell? ⟨x, 0, none⟩ = some X0 ∧ W.cell? ⟨x, 1, none⟩ = some X1 ∧ W.cell? ⟨x, 2, none⟩ = some X2 ∧ W.cell? ⟨y, 0, none⟩ = some Y0 ∧ W.cell? ⟨y, 1, none⟩ = some Y1 ∧ W.cell? ⟨y, 2, none⟩ = some Y2 ∧ Below w0.heap.size w0 W) (hb : Below W.heap.size W W') :
    W'.cell? ⟨x, 0, none⟩ = some X0 ∧ W'.cell? ⟨x, 1, none⟩ = some X1 ∧ W'.cell? ⟨x, 2, none⟩ = some X2 ∧ W'.cell? ⟨y, 0, none⟩ = some Y0 ∧ W'.cell? ⟨y, 1, none⟩ = some Y1 ∧ W'.cell? ⟨y, 2, none⟩ = some Y2 ∧ Below w0.heap.size w0 W' := by
  obtain ⟨h1, h2, h3, h4, h5, h6, h7⟩ := h
  exact ⟨pw_cell_below hb h1, pw_cell_below hb h2, pw_cell_below hb h3, pw_cell_below hb h4, pw_cell_below hb h5, pw_cell_below hb h6, h7.trans (hb.mono h7.size)⟩
/-- What the law's worlds hold: the two boxes, the two ledgers' entries. -/
structure LawAt (w : World) (x y : Nat) (va vb : Array Value) (A0 A1 : Option Addr) (l m : List S39) (W : World) : Prop where
  low : Below w.heap.size w W
  xa : ∀ j v, va[j]? = some v → W.cell? ⟨x, j, none⟩ = some v
  yb : ∀ j v, vb[j]? = some v → W.cell? ⟨y, j, none⟩ = some v
  ca : Kd.C k39 W A0 l.length l
  cb : Kd.C k39 W A1 m.length m
theorem LawAt.below {w W W' : World} {x y : Nat} {va vb : Array Value} {A0 A1 : Option Addr} {l m : List S39} (h : LawAt w x y va vb A0 A1 l m W) (hb : Below W.heap.size W W') : LawAt w x y va vb A0 A1 l m W' :=
  ⟨h.low.trans (hb.mono h.low.size), fun j v q => pw_cell_below hb (h.xa j v q), fun j v q => pw_cell_below hb (h.yb j v q), Kd.C_below h.ca hb, Kd.C_below h.cb hb⟩
theorem LawAt.start {w : World} {va vb : Array Value} {A0 A1 : Option Addr} {l m : List S39} (h0 : Kd.C k39 w A0 l.length l) (h1 : Kd.C k39 w A1 m.length m) : LawAt w w.heap.size (w.heap.size + 1) va vb A0 A1 l m ((w.alloc (.cells va 24)).alloc (.cells vb 24)) :=
  have b2 := below2 w (.cells va 24) (.cells vb 24)
  ⟨b2, fun j v q => pw_cell_below (below1 (w.alloc (.cells va 24)) (.cells vb 24)) ((cell_new w va 24 (0, 0) j).trans q), fun j v q => (cell_new2 w (.cells va 24) vb 24 j).trans q, Kd.C_below h0 b2, Kd.C_below h1 b2⟩
set_option maxHeartbeats 8000000 in
set_option maxRecDepth 100000 in
theorem Law3 (a0 : ByteArray) (n0 : Int) (A0 : Option Addr) (c0 : Nat) (l : List S39) (a1 : ByteArray) (n1 : Int) (A1 : Option Addr) (c1 : Nat) (m : List S39) (w : World) (h0 : Kd.C k39 w A0 l.length l) (hc0 : l.length ≤ c0) (h1 : Kd.C k39 w A1 m.length m) (hc1 : m.length ≤ c1) (hR : Rules w) (hl : l.length < 2 ^ 63) (hl' : ∀ e ∈ l, e.f1.f0.length < 2 ^ 63) (hm : m.length < 2 ^ 63) (hm' : ∀ e ∈ m, e.f1.f0.length < 2 ^ 63) :
    Calls Tryz.prog 3 #[.agg (ledV a0 n0 (.slice A0 l.length c0)), .agg (ledV a1 n1 (.slice A1 m.length c1))] w fun e w' => e = .returned (.bool true) ∧ Below w.heap.size w w' := by
  have hu24 := Tryz.underlying24
  obtain ⟨ra, fa⟩ := few5 a0 n0 A0 c0 l hl
  obtain ⟨rb, fb⟩ := few5 a1 n1 A1 c1 m hm
  have FA := Aside0.mk fun W h => fa W h hc0
  have FB := Aside0.mk fun W h => fb W h hc1
  have AB := Aside0.mk fun W h h' => Before6 a0 n0 A0 c0 l a1 n1 A1 c1 m W h hc0 h' hc1 hl hl'
  have BA := Aside0.mk fun W h h' => Before6 a1 n1 A1 c1 m a0 n0 A0 c0 l W h hc1 h' hc0 hm hm'
  have AB' := Aside0.mk fun W h h' => RefBefore7 a0 n0 A0 c0 l a1 n1 A1 c1 m W h hc0 h' hc1 hl hl'
  have BA' := Aside0.mk fun W h h' => RefBefore7 a1 n1 A1 c1 m a0 n0 A0 c0 l W h hc1 h' hc0 hm hm'
  have AA := Aside0.mk fun W h => BefSelf6 a0 n0 A0 c0 l W h hc0 hl hl'
  have BB := Aside0.mk fun W h => BefSelf6 a1 n1 A1 c1 m W h hc1 hm hm'
  have HA := Aside0.mk (LawAt.start (va := ledV a0 n0 (.slice A0 l.length c0)) (vb := ledV a1 n1 (.slice A1 m.length c1)) h0 h1)
  have HR := Aside0.mk (hR.below HA.out.low)
  clear fa fb h0 h1 hR hc0 hc1 hl hl' hm hm'
  generalize befS a0 n0 l a1 n1 m = p at *
  generalize befS a1 n1 m a0 n0 l = q at *
  go_enter Tryz.func3, Tryz.ntmps3
  go_upto_region 1 with fail
  go_cut [5] (fun s wx => s = .bool true ∧ LawAt w w.heap.size (w.heap.size + 1) (ledV a0 n0 (.slice A0 l.length c0)) (ledV a1 n1 (.slice A1 m.length c1)) A0 A1 l m wx)
  case first =>
    go_wp2_with (go_at_call 4; refine Calls.mono (Sane4 _ HR.out) ?_; rintro e w1 ⟨rfl, hb⟩; have H1 := Aside0.mk (HA.out.below hb); clear hb)
    go_meet
    exact ⟨rfl, H1.out⟩
  case rest =>
  obtain ⟨rfl, H⟩ := hcut
  obtain ⟨w1, rfl⟩ : ∃ x, x = wc := ⟨_, rfl⟩
  clear HA HR
  have x0 : w1.cell? ⟨w.heap.size, 0, none⟩ = some (.string a0) := H.xa 0 _ rfl
  have x1 : w1.cell? ⟨w.heap.size, 1, none⟩ = some (.int .i64 n0) := H.xa 1 _ rfl
  have x2 : w1.cell? ⟨w.heap.size, 2, none⟩ = some (.slice A0 l.length c0) := H.xa 2 _ rfl
  have y0 : w1.cell? ⟨w.heap.size + 1, 0, none⟩ = some (.string a1) := H.yb 0 _ rfl
  have y1 : w1.cell? ⟨w.heap.size + 1, 1, none⟩ = some (.int .i64 n1) := H.yb 1 _ rfl
  have y2 : w1.cell? ⟨w.heap.size + 1, 2, none⟩ = some (.slice A1 m.length c1) := H.yb 2 _ rfl
  have H1 := Aside0.mk H
  clear H
  go_upto_region 2 with fail
  go_cut [14] (fun s wx => ∃ b, s = .bool b ∧ Below w1.heap.size w1 wx)
  case first =>
    cases ra
    · go_wp2_with (go_at_call 5; with_reducible refine Calls.mono (FA.out _ H1.out.ca) ?_; rintro e w2 ⟨rfl, hb⟩; have HB1 := Aside0.mk hb; clear hb)
      go_meet
      exact ⟨_, rfl, HB1.out⟩
    · go_wp2_with (go_at_call 5; with_reducible refine Calls.mono (FA.out _ H1.out.ca) ?_; rintro e w2 ⟨rfl, hb⟩; have HB1 := Aside0.mk hb; have k0 := pw_cell_below hb y0; have k1 := pw_cell_below hb y1; have k2 := pw_cell_below hb y2; have H2 := Aside0.mk (H1.out.below hb); clear hb)
      cases rb
      all_goals
        go_wp2_with (go_at_call 5; with_reducible refine Calls.mono (FB.out _ H2.out.cb) ?_; rintro e w3 ⟨rfl, hb⟩; have HB2 := Aside0.mk (HB1.out.trans (hb.mono HB1.out.size)); clear hb)
        go_meet
        exact ⟨_, rfl, HB2.out⟩
  case rest =>
  obtain ⟨b, rfl, hb2⟩ := hcut
  obtain ⟨w2, rfl⟩ : ∃ x, x = wc := ⟨_, rfl⟩
  have H := H1.out.below hb2
  clear H1 x0 x1 x2 y0 y1 y2 hb2 FA FB
  cases b
  · have x0 : w2.cell? ⟨w.heap.size, 0, none⟩ = some (.string a0) := H.xa 0 _ rfl
    have x1 : w2.cell? ⟨w.heap.size, 1, none⟩ = some (.int .i64 n0) := H.xa 1 _ rfl
    have x2 : w2.cell? ⟨w.heap.size, 2, none⟩ = some (.slice A0 l.length c0) := H.xa 2 _ rfl
    have y0 : w2.cell? ⟨w.heap.size + 1, 0, none⟩ = some (.string a1) := H.yb 0 _ rfl
    have y1 : w2.cell? ⟨w.heap.size + 1, 1, none⟩ = some (.int .i64 n1) := H.yb 1 _ rfl
    have y2 : w2.cell? ⟨w.heap.size + 1, 2, none⟩ = some (.slice A1 m.length c1) := H.yb 2 _ rfl
    have d2 : Below w2.heap.size w2 w2.drew := below_drew1 (Below.refl _ _)
    have S0 : w2.drew.cell? ⟨w.heap.size, 0, none⟩ = some (.string a0) ∧ w2.drew.cell? ⟨w.heap.size, 1, none⟩ = some (.int .i64 n0) ∧ w2.drew.cell? ⟨w.heap.size, 2, none⟩ = some (.slice A0 l.length c0) ∧ w2.drew.cell? ⟨w.heap.size + 1, 0, none⟩ = some (.string a1) ∧ w2.drew.cell? ⟨w.heap.size + 1, 1, none⟩ = some (.int .i64 n1) ∧ w2.drew.cell? ⟨w.heap.size + 1, 2, none⟩ = some (.slice A1 m.length c1) ∧ Below w2.heap.size w2 w2.drew := ⟨x0, x1, x2, y0, y1, y2, d2⟩
    have HS0 := Aside0.mk S0
    clear S0 d2
    have HH := Aside0.mk H
    clear H
    go_wp2_with fail
    go_region_held3 (fun w' => w'.cell? ⟨w.heap.size, 0, none⟩ = some (.string a0) ∧ w'.cell? ⟨w.heap.size, 1, none⟩ = some (.int .i64 n0) ∧ w'.cell? ⟨w.heap.size, 2, none⟩ = some (.slice A0 l.length c0) ∧ w'.cell? ⟨w.heap.size + 1, 0, none⟩ = some (.string a1) ∧ w'.cell? ⟨w.heap.size + 1, 1, none⟩ = some (.int .i64 n1) ∧ w'.cell? ⟨w.heap.size + 1, 2, none⟩ = some (.slice A1 m.length c1) ∧ Below w2.heap.size w2 w') (first | exact HS0.out | assumption | exact keep_cells (by assumption) (by assumption)) ((first
      | (go_at_call 6
         with_reducible refine Calls.mono (AB.out _ (HH.out.below (by go_split_ands; assumption)).ca (HH.out.below (by go_split_ands; assumption)).cb) ?_
         rintro e w4 ⟨rfl, hb⟩)
      | (go_at_call 7
         with_reducible refine Calls.mono (AB'.out _ (HH.out.below (by go_split_ands; assumption)).ca (HH.out.below (by go_split_ands; assumption)).cb) ?_
         rintro e w4 ⟨rfl, hb⟩)
      | (go_at_call 6
         with_reducible refine Calls.mono (BA.out _ (HH.out.below (by go_split_ands; assumption)).cb (HH.out.below (by go_split_ands; assumption)).ca) ?_
         rintro e w4 ⟨rfl, hb⟩)
      | (go_at_call 7
         with_reducible refine Calls.mono (BA'.out _ (HH.out.below (by go_split_ands; assumption)).cb (HH.out.below (by go_split_ands; assumption)).ca) ?_
         rintro e w4 ⟨rfl, hb⟩)
      | (go_at_call 6
         with_reducible refine Calls.mono (AA.out _ (HH.out.below (by go_split_ands; assumption)).ca) ?_
         rintro e w4 ⟨rfl, hb⟩)
      | (go_at_call 6
         with_reducible refine Calls.mono (BB.out _ (HH.out.below (by go_split_ands; assumption)).cb) ?_
         rintro e w4 ⟨rfl, hb⟩)))
    all_goals
      have HZ := Aside0.mk (HH.out.below (by go_split_ands; assumption)).low
      go_wp2_with fail
      go_ret
      exact ⟨rfl, HZ.out⟩
  · have HB := Aside0.mk H.low
    clear H
    go_wp2_with fail
    go_ret
    exact ⟨rfl, HB.out⟩
end Go.Proofs.YtfoojamabjpdpaaGreatDoor.Led
