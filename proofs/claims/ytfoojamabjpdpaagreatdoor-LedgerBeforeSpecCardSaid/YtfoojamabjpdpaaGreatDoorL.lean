import Derived.Deep.RegionLaw
import Derived.Test.YtfoojamabjpdpaaGreatDoorK
/- Closed runs: Rename. -/
namespace Go.Proofs.YtfoojamabjpdpaaGreatDoor.Led
open Go.RowKit Go.Proofs.YtfoojamabjpdpaaGreatDoorW.PrintWords Go.Proofs.YtfoojamabjpdpaaGreatDoorW.PrintLast Go.Proofs.YtfoojamabjpdpaaGreatDoorW.PrintMore
attribute [local go_sem] max2_int min2_int max_two min_two max_three min_three max_four min_four
attribute [local go_sem] ba_get ba_size List.getElem_toArray List.getElem_cons_zero List.getElem_cons_succ List.size_toArray List.length_cons List.length_nil
set_option linter.unusedVariables false
set_option linter.unusedSimpArgs false
/-- An append whose run is known, at a step of a region that draws. -/
theorem step_append_run {P : Program} {W W' : World} {ops : Array Oper} {o : Oper} {a : Act} {K : Act → World → Prop} {Q : Exit → Act → World → Prop} {E : Prop} (hgd : o.guard = none) (s x : Operand) (t ty : TypeId)
    (ho : o.op = .call { callee := .builtin .append, args := #[s, x], argTypes := #[t, t] }) (hty : o.type = ty) (v y v' : Value) (hs : a.eval s = v) (hx : a.eval x = y)
    (hrun : (Builtin.append_ #[t, t] ty #[v, y]).run P W = .ok v' W') (h : K (a.put o.dst v') W') : if Region.wanted o (yielded ops a.tmps) = true then Oper.wp P o a W K Q else E := by
  have hw : Region.wanted o (yielded ops a.tmps) = true := by simp [Region.wanted, hgd]
  rw [if_pos hw]
  subst hty
  unfold Oper.wp execOp
  simp only [ho, resolve, invoke, builtin, Sem.run_bind, Sem.run_pure, Result.andThen_ok, List.map_toArray, List.map_cons, List.map_nil, hs, hx, hrun]
  exact h
/-- A part laid behind none. -/
theorem app_part (W : World) (g c : Nat) : ∃ gq cap W', (Builtin.append_ #[65, 65] 65 #[.slice none 0 0, .slice (some ⟨W.heap.size, 0, none⟩) 1 1]).run Tryz.prog (W.alloc (.cells #[.slice (some ⟨g, 0, none⟩) 1 c] 35)) = .ok (.slice (some ⟨gq, 0, none⟩) 1 cap) W' ∧ W'.cell? ⟨gq, 0, none⟩ = some (.slice (some ⟨g, 0, none⟩) 1 c) ∧ Below W.heap.size W W' := by
  obtain ⟨gq, cap, cur, W', hr, hg, htk, hc, hle, hb⟩ := append_nil (W := W.alloc (.cells #[.slice (some ⟨g, 0, none⟩) 1 c] 35)) (t := 65) (e := 35) Tryz.underlying65 YtfoojamabjpdpaaGreatDoor.PLedgerBeforeSpec.info35 rfl (by decide) ⟨W.heap.size, 0, none⟩ 1 1 [.slice (some ⟨g, 0, none⟩) 1 c] (by decide) rfl
    (fun j u hu => by
      match j, hu with
      | 0, hu => cases hu; exact cell_new W _ 35 (0, 0) 0
      | j + 1, hu => cases hu) (by intro u hu; obtain rfl := List.mem_singleton.1 hu; rfl) (by simp only [maxLen]; omega) (by decide)
  refine ⟨gq, cap, W', hr, ?_, (below1 W _).trans (hb.mono (by simp))⟩
  rw [cell_of_row W' gq 0 cur 35 (0, 0) hg, ← Array.getElem?_toList]
  have h1 : (cur.toList.take 1)[0]? = ([Value.slice (some ⟨g, 0, none⟩) 1 c] : List Value)[0]? := by rw [show (1 : Nat) = 1 * 1 from rfl, htk]
  rwa [List.getElem?_take_of_lt (by omega)] at h1
theorem PartsAt.far {W : World} {gp g c : Nat} {s : ByteArray} (h : PartsAt W gp g c s) {p : Addr} (h1 : gp ≠ p.block) (h2 : g ≠ p.block) (u : Value) : PartsAt (W.setCell p u) gp g c s :=
  ⟨(World.cell?_of_block (a := ⟨gp, 0, none⟩) (Below.heap_setCell W p u gp h1)).trans h.p, h.a.far h2 u⟩
set_option maxHeartbeats 8000000 in
set_option maxRecDepth 100000 in
theorem Rename1 {s : ByteArray} (hs : IsV s) (gp cp g c : Nat) (w : World) (h : PartsAt w gp g c s) (hR : Rules w) : Calls Tryz.prog 34 #[.agg #[.slice none 0 0, .slice (some ⟨gp, 0, none⟩) 1 cp]] w fun e w' => ∃ gq cq g' c', e = .returned (.tuple #[.agg #[.slice none 0 0, .slice (some ⟨gq, 0, none⟩) 1 cq], .int .i64 0]) ∧ PartsAt w' gq g' c' sV ∧ Below w.heap.size w w' := by
  have hb2 := below2 w (.cells #[.slice none 0 0, .slice (some ⟨gp, 0, none⟩) 1 cp] 67) (.cells #[.slice none 0 0, .slice none 0 0] 67)
  have HP := Aside0.mk (h.below hb2)
  have HR := Aside0.mk (hR.below hb2)
  have HB := Aside0.mk hb2
  have HX := Aside0.mk (blk_new2 w (.cells #[.slice none 0 0, .slice (some ⟨gp, 0, none⟩) 1 cp] 67) 67 #[.slice none 0 0, .slice none 0 0])
  have hq1 : ((w.alloc (.cells #[.slice none 0 0, .slice (some ⟨gp, 0, none⟩) 1 cp] 67)).alloc (.cells #[.slice none 0 0, .slice none 0 0] 67)).cell? ⟨w.heap.size, 1, none⟩ = some (.slice (some ⟨gp, 0, none⟩) 1 cp) := pw_cell_below (below1 _ _) (cell_new w _ 67 (0, 0) 1)
  have hq0 : ((w.alloc (.cells #[.slice none 0 0, .slice (some ⟨gp, 0, none⟩) 1 cp] 67)).alloc (.cells #[.slice none 0 0, .slice none 0 0] 67)).cell? ⟨w.heap.size, 0, none⟩ = some (.slice none 0 0) := pw_cell_below (below1 _ _) (cell_new w _ 67 (0, 0) 0)
  have hmm := @run_makeMap Tryz.prog
  clear h hR hb2
  go_enter Tryz.func34, Tryz.ntmps34
  go_wp2_with fail
  go_at_call 52
  refine (checkForm1 hs gp cp g c _ HP.out HR.out).mono ?_
  rintro e w1 ⟨rfl, hb1⟩
  have hm := below1 w1 (.map #[] 0)
  have x0 := pw_cell_below hm (pw_cell_below hb1 hq0)
  have x1 := pw_cell_below hm (pw_cell_below hb1 hq1)
  have hp1 := ((HP.out.below hb1).below hm).p
  have HP1 := Aside0.mk (((HP.out.below hb1).below hm).below (below1 _ (.cells #[.slice (some ⟨g, 0, none⟩) 1 c] 35)))
  have HX1 := Aside0.mk (((HX.out.below hb1 HX.out.lt).below hm (Nat.lt_of_lt_of_le HX.out.lt hb1.size)).below (below1 _ (.cells #[.slice (some ⟨g, 0, none⟩) 1 c] 35)) (Nat.lt_of_lt_of_le HX.out.lt (Nat.le_trans hb1.size hm.size)))
  have HB1 := Aside0.mk (((HB.out.trans (hb1.mono HB.out.size)).trans (hm.mono (Nat.le_trans HB.out.size hb1.size))).trans ((below1 _ (.cells #[.slice (some ⟨g, 0, none⟩) 1 c] 35)).mono (Nat.le_trans HB.out.size (Nat.le_trans hb1.size hm.size))))
  have HT1 := Aside0.mk (show ((w1.alloc (.map #[] 0)).alloc (.cells #[.slice (some ⟨g, 0, none⟩) 1 c] 35)).heap[w1.heap.size]? = some (.map #[] 0) from (heap_alloc_old _ _ (by simp)).trans (heap_alloc_new w1 _))
  clear hq0 hq1 hb1 hm
  go_wp2
  refine wp_loop_rounds 3 (rounds_intro ?_)
  go_wp2
  refine wp_loop_rounds 3 (rounds_intro ?_)
  go_wp2
  have C58 : Aside0 (∀ W, (∃ n, W = ((w1.alloc (.map #[] 0)).alloc (.cells #[.slice (some ⟨g, 0, none⟩) 1 c] 35)).drewN n) → Calls Tryz.prog 58 #[.agg #[.slice (some ⟨g, 0, none⟩) 1 c], .map (some w1.heap.size)] W fun e w' => ∃ g' c', e = .returned (.agg #[.slice (some ⟨g', 0, none⟩) 1 c']) ∧ AtomAt w' g' sV ∧ Blk w' (w.heap.size + 1) 67 #[.slice none 0 0, .slice none 0 0] ∧ Below w.heap.size w w') := ⟨by
    rintro W ⟨n, rfl⟩
    refine (least1 hs g c w1.heap.size 0 _ (show AtomAt (((w1.alloc (.map #[] 0)).alloc (.cells #[.slice (some ⟨g, 0, none⟩) 1 c] 35)).drewN n) g s from HP1.out.a) (show (((w1.alloc (.map #[] 0)).alloc (.cells #[.slice (some ⟨g, 0, none⟩) 1 c] 35)).drewN n).heap[w1.heap.size]? = some (.map #[] 0) from HT1.out)).mono ?_
    rintro e w' ⟨g', c', rfl, ha, hb⟩
    exact ⟨g', c', rfl, ha, (show Blk (((w1.alloc (.map #[] 0)).alloc (.cells #[.slice (some ⟨g, 0, none⟩) 1 c] 35)).drewN n) (w.heap.size + 1) 67 #[.slice none 0 0, .slice none 0 0] from HX1.out).below hb HX1.out.lt, (pw_below_drewN HB1.out n).trans (hb.mono HB1.out.size)⟩⟩
  have xx1 := HX1.out.cell 1
  clear hp1
  go_region_law (first
    | (refine step_append_run (by rfl) (.tmp 48) (.tmp 52) 65 65 (by rfl) (by rfl) _ _ _ (by rfl) (by rfl) hrun ?_)
    | (go_simp; go_at_call 58; refine (C58.out _ ⟨1, rfl⟩).mono ?_; rintro e w2 ⟨g', c', rfl, ha2, hx2, hb2⟩; obtain ⟨gq, cap, w3, hrun, hcq, hb3⟩ := app_part w2 g' c'; have hx3 := hx2.below hb3 hx2.lt; have y1 := hx3.cell 1; have yf := hx3.frozen 1; have y2 := hx2.cell 1; have y3 := (hx2.below (below1 w2 (.cells #[.slice (some ⟨g', 0, none⟩) 1 c'] 35)) hx2.lt).cell 1; have H3 := Aside0.mk (And.intro (PartsAt.mk hcq (ha2.below hb3)) (And.intro hx3 (hb2.trans (hb3.mono hb2.size)))); clear ha2 hx2 hb2 hcq hb3 hx3))
  all_goals
    clear hrun y1 yf y2 y3 xx1 hmm C58
    obtain ⟨hP3, hx3, hb3⟩ := H3.out
    have hx4 := hx3.set_ 1 (.slice (some ⟨gq, 0, none⟩) 1 cap)
    have q0 := hx4.cell 0
    have q1 := hx4.cell 1
    have f0 := hx3.frozen 0
    have f1 := hx3.frozen 1
    have f2 := hx4.frozen 0
    have f3 := hx4.frozen 1
    have hx5 := (hx4.set_ 0 (.slice none 0 0)).set_ 1 (.slice (some ⟨gq, 0, none⟩) 1 cap)
    have e0 := hx5.cell 0
    have e1 := hx5.cell 1
    have n1 : gq ≠ w.heap.size + 1 := by
      rintro rfl
      have h1 := hP3.p
      have h2 := hx3.cell 0
      rw [h1] at h2
      cases h2
    have n2 : g' ≠ w.heap.size + 1 := by
      rintro rfl
      have h1 := hP3.a.1
      have h2 := hx3.cell 0
      rw [h1] at h2
      cases h2
    have HE := Aside0.mk (And.intro (((hP3.far (p := ⟨w.heap.size + 1, 1, none⟩) n1 n2 (.slice (some ⟨gq, 0, none⟩) 1 cap)).far (p := ⟨w.heap.size + 1, 0, none⟩) n1 n2 (.slice none 0 0)).far (p := ⟨w.heap.size + 1, 1, none⟩) n1 n2 (.slice (some ⟨gq, 0, none⟩) 1 cap)) (((hb3.setCell (p := ⟨w.heap.size + 1, 1, none⟩) (by simp) (.slice (some ⟨gq, 0, none⟩) 1 cap)).setCell (p := ⟨w.heap.size + 1, 0, none⟩) (by simp) (.slice none 0 0)).setCell (p := ⟨w.heap.size + 1, 1, none⟩) (by simp) (.slice (some ⟨gq, 0, none⟩) 1 cap)))
    clear hP3 hx3 hb3 hx4 hx5 n1 n2
    go_wp2
    refine rounds_intro ?_
    go_wp2
    refine bodyPost_ret (v := .tuple #[.agg #[.slice none 0 0, .slice (some ⟨gq, 0, none⟩) 1 cap], .int .i64 0]) (by simp [results, Tryz.results34, go_sem, e0, e1]) rfl ?_
    exact ⟨gq, cap, g', c', rfl, HE.out.1, HE.out.2⟩
end Go.Proofs.YtfoojamabjpdpaaGreatDoor.Led
