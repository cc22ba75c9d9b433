import Derived.Laws.EntriesVeiled
import Derived.Test.YtfoojamabjpdpaaGreatDoorJ
/- Closed runs: least. -/
namespace Go.Proofs.YtfoojamabjpdpaaGreatDoor.Led
open Go.RowKit Go.Proofs.YtfoojamabjpdpaaGreatDoorW.PrintWords Go.Proofs.YtfoojamabjpdpaaGreatDoorW.PrintLast Go.Proofs.YtfoojamabjpdpaaGreatDoorW.PrintMore
attribute [local go_sem] max2_int min2_int max_two min_two max_three min_three max_four min_four
attribute [local go_sem] ba_get ba_size List.getElem_toArray List.getElem_cons_zero List.getElem_cons_succ List.size_toArray List.length_cons List.length_nil
set_option linter.unusedVariables false
set_option linter.unusedSimpArgs false
/-- What lies while the least part is sought. -/
structure LW (w : World) (g c : Nat) (W : World) : Prop where
  np : Blk W w.heap.size 35 #[.slice (some ⟨g, 0, none⟩) 1 c]
  nr : Blk W (w.heap.size + 1) 35 #[.slice none 0 0]
  bm : W.heap[w.heap.size + 1 + 1]? = some (.map #[] 0)
  nm : Blk W (w.heap.size + 1 + 1 + 1) 107 #[.map (some (w.heap.size + 1 + 1))]
  below : Below w.heap.size w W
theorem LW.on {w : World} {g c : Nat} {W W' : World} (h : LW w g c W) (hb : Below W.heap.size W W') : LW w g c W' :=
  ⟨h.np.below hb h.np.lt, h.nr.below hb h.nr.lt, (hb.block _ (Array.getElem?_eq_some_iff.1 h.bm).1).trans h.bm, h.nm.below hb h.nm.lt, h.below.trans (hb.mono h.below.size)⟩
theorem LW.grown {w : World} {g c k : Nat} {W W' : World} (h : LW w g c W) (hg : W.grownBy W' (some k)) (hk : w.heap.size + 1 + 1 + 1 < k) : LW w g c W' :=
  ⟨(hg.block _ h.np.lt (by simp <;> omega)).trans h.np, (hg.block _ h.nr.lt (by simp <;> omega)).trans h.nr, (hg.block _ (Array.getElem?_eq_some_iff.1 h.bm).1 (by simp <;> omega)).trans h.bm, (hg.block _ h.nm.lt (by simp <;> omega)).trans h.nm, h.below.grown hg h.below.size (fun j e => by cases e; omega)⟩
/-- A row that was made empty grows. -/
theorem append_at {W : World} {t e : TypeId} {z : Value} {size bytes : Nat} (ht : Tryz.prog.underlying t = some (.slice e)) (hinfo : (Tryz.prog.info? e).map (fun i => (i.zero, i.size, i.bytes)) = some (some z, size, bytes)) (hzs : z.cells.size = size) (hsz : 0 < size) (b : Nat) (hB : Blk W b e #[]) (ad : Addr) (m c : Nat) (news : List Value) (hm : 0 < m)
    (hl : news.length = m * size) (hcells : ∀ j u, news[j]? = some u → W.cell? (ad.add j) = some u) (h1 : ∀ u ∈ news, u.oneCell' = true) (h63 : m ≤ maxLen) (hbytes : m * bytes ≤ 140737488355328) :
    ∃ g cap cur W', (Builtin.append_ #[t, t] t #[.slice (some ⟨b, 0, none⟩) 0 0, .slice (some ad) m c]).run Tryz.prog W = .ok (.slice (some ⟨g, 0, none⟩) m cap) W' ∧ Blk W' g e cur ∧ cur.toList.take (m * size) = news ∧ m ≤ cap ∧ b ≤ g ∧ W.grownBy W' (some b) := by
  obtain ⟨i, hi, hzz⟩ := Option.map_eq_some_iff.1 hinfo
  simp only [Prod.mk.injEq] at hzz
  obtain ⟨hz0, hz1, hz2⟩ := hzz
  have ho : W.ownsRow b e size (.slice (some ⟨b, 0, none⟩) 0 0) 0 [] := ⟨by simp, .inr ⟨b, 0, #[], rfl, Nat.le_refl _, hB, Nat.le_refl _, by simp [maxLen], by simp, by simp⟩⟩
  obtain ⟨v', W', hrun, h2, h3, _, _⟩ := run_append_own_at (P := Tryz.prog) W b t t e i z size bytes ht hi hz0 hz1 hz2 hzs hsz _ 0 [] ho ad m c news hl hcells h1 (by omega) (by rw [Nat.zero_add]; exact hbytes) (Nat.le_of_lt hB.lt)
  rw [Nat.zero_add] at h2
  rcases h2.2 with ⟨_, hn⟩ | ⟨g, cap, cur, rfl, hle, hg, hnc, hcm, hsz', htk⟩
  · omega
  · exact ⟨g, cap, cur, W', hrun, hg, by rw [htk, List.nil_append], hnc, hle, h3⟩
theorem app_str_at (W : World) (b : Nat) (hB : Blk W b 9 #[]) (s : ByteArray) : ∃ g cap W', (Builtin.append_ #[64, 64] 64 #[.slice (some ⟨b, 0, none⟩) 0 0, .slice (some ⟨W.heap.size, 0, none⟩) 1 1]).run Tryz.prog (W.alloc (.cells #[.string s] 9)) = .ok (.slice (some ⟨g, 0, none⟩) 1 cap) W' ∧ (∃ cur, Blk W' g 9 cur) ∧ W'.cell? ⟨g, 0, none⟩ = some (.string s) ∧ W.grownBy W' (some b) := by
  obtain ⟨g, cap, cur, W', hr, hg, htk, hc, hle, hb⟩ := append_at (W := W.alloc (.cells #[.string s] 9)) (t := 64) (e := 9) Tryz.underlying64 info9 rfl (by decide) b (hB.below (below1 W _) hB.lt) ⟨W.heap.size, 0, none⟩ 1 1 [.string s] (by decide) rfl
    (fun j u hu => by
      match j, hu with
      | 0, hu => cases hu; exact cell_new W _ 9 (0, 0) 0
      | j + 1, hu => cases hu) (by intro u hu; obtain rfl := List.mem_singleton.1 hu; rfl) (by simp only [maxLen]; omega) (by decide)
  refine ⟨g, cap, W', hr, ⟨cur, hg⟩, ?_, World.grownBy.trans (grown_of_below (below1 W _) _) hb⟩
  rw [cell_of_row W' g 0 cur 9 (0, 0) hg, ← Array.getElem?_toList]
  have h1 : (cur.toList.take 1)[0]? = ([Value.string s] : List Value)[0]? := by rw [show (1 : Nat) = 1 * 1 from rfl, htk]
  rwa [List.getElem?_take_of_lt (by omega)] at h1
theorem new_at (W : World) (o : Obj) (k : Nat) (hk : W.heap.size = k) : (W.alloc o).heap[k]? = some o := by subst hk; exact heap_alloc_new W o
theorem lw_start (w : World) (g c : Nat) : LW w g c ((((((w.alloc (.cells #[.slice (some ⟨g, 0, none⟩) 1 c] 35)).alloc (.cells #[.slice none 0 0] 35)).alloc (.map #[] 0)).alloc (.cells #[.map (some (w.heap.size + 1 + 1))] 107)).alloc (.cells #[] 9)).alloc (.cells #[.slice (some ⟨w.heap.size + 1 + 1 + 1 + 1, 0, none⟩) 0 0] 64)) ∧ Blk ((((((w.alloc (.cells #[.slice (some ⟨g, 0, none⟩) 1 c] 35)).alloc (.cells #[.slice none 0 0] 35)).alloc (.map #[] 0)).alloc (.cells #[.map (some (w.heap.size + 1 + 1))] 107)).alloc (.cells #[] 9)).alloc (.cells #[.slice (some ⟨w.heap.size + 1 + 1 + 1 + 1, 0, none⟩) 0 0] 64)) (w.heap.size + 1 + 1 + 1 + 1) 9 #[] ∧ Blk ((((((w.alloc (.cells #[.slice (some ⟨g, 0, none⟩) 1 c] 35)).alloc (.cells #[.slice none 0 0] 35)).alloc (.map #[] 0)).alloc (.cells #[.map (some (w.heap.size + 1 + 1))] 107)).alloc (.cells #[] 9)).alloc (.cells #[.slice (some ⟨w.heap.size + 1 + 1 + 1 + 1, 0, none⟩) 0 0] 64)) (w.heap.size + 1 + 1 + 1 + 1 + 1) 64 #[.slice (some ⟨w.heap.size + 1 + 1 + 1 + 1, 0, none⟩) 0 0] := by
  refine ⟨⟨?_, ?_, ?_, ?_, ?_⟩, ?_, ?_⟩
  · exact (heap_alloc_old _ _ _ (by simp <;> omega)).trans ((heap_alloc_old _ _ _ (by simp <;> omega)).trans ((heap_alloc_old _ _ _ (by simp <;> omega)).trans ((heap_alloc_old _ _ _ (by simp <;> omega)).trans ((heap_alloc_old _ _ _ (by simp)).trans (new_at _ _ _ rfl)))))
  · exact (heap_alloc_old _ _ _ (by simp <;> omega)).trans ((heap_alloc_old _ _ _ (by simp <;> omega)).trans ((heap_alloc_old _ _ _ (by simp <;> omega)).trans ((heap_alloc_old _ _ _ (by simp)).trans (new_at _ _ _ (by simp)))))
  · exact (heap_alloc_old _ _ _ (by simp <;> omega)).trans ((heap_alloc_old _ _ _ (by simp <;> omega)).trans ((heap_alloc_old _ _ _ (by simp)).trans (new_at _ _ _ (by simp))))
  · exact (heap_alloc_old _ _ _ (by simp <;> omega)).trans ((heap_alloc_old _ _ _ (by simp)).trans (new_at _ _ _ (by simp)))
  · exact (((((below1 w _).alloc (by simp) _).alloc (by simp <;> omega) _).alloc (by simp <;> omega) _).alloc (by simp <;> omega) _).alloc (by simp <;> omega) _
  · exact (heap_alloc_old _ _ _ (by simp)).trans (new_at _ _ _ (by simp))
  · exact new_at _ _ _ (by simp)
/-- What lies when the names are tried. -/
theorem least_world (w : World) (g c g2 cap : Nat) (s : ByteArray) (w2 : World) (F : Value) (cur2 : Array Value) (h : LW w g c w2 ∧ Blk w2 (w.heap.size + 1 + 1 + 1 + 1 + 1) 64 #[.slice (some ⟨w.heap.size + 1 + 1 + 1 + 1, 0, none⟩) 0 0] ∧ Blk w2 g2 9 cur2 ∧ w2.cell? ⟨g2, 0, none⟩ = some (.string s)) :
    LW w g c (((w2.setCell ⟨w.heap.size + 1 + 1 + 1 + 1 + 1, 0, none⟩ (.slice (some ⟨g2, 0, none⟩) 1 cap)).alloc (.cells #[.slice none 0 0] 35)).alloc (.cells #[F] 152)) ∧ Blk (((w2.setCell ⟨w.heap.size + 1 + 1 + 1 + 1 + 1, 0, none⟩ (.slice (some ⟨g2, 0, none⟩) 1 cap)).alloc (.cells #[.slice none 0 0] 35)).alloc (.cells #[F] 152)) (w.heap.size + 1 + 1 + 1 + 1 + 1) 64 #[.slice (some ⟨g2, 0, none⟩) 1 cap] ∧ Blk (((w2.setCell ⟨w.heap.size + 1 + 1 + 1 + 1 + 1, 0, none⟩ (.slice (some ⟨g2, 0, none⟩) 1 cap)).alloc (.cells #[.slice none 0 0] 35)).alloc (.cells #[F] 152)) w2.heap.size 35 #[.slice none 0 0] ∧ Blk (((w2.setCell ⟨w.heap.size + 1 + 1 + 1 + 1 + 1, 0, none⟩ (.slice (some ⟨g2, 0, none⟩) 1 cap)).alloc (.cells #[.slice none 0 0] 35)).alloc (.cells #[F] 152)) (w2.heap.size + 1) 152 #[F] ∧ (((w2.setCell ⟨w.heap.size + 1 + 1 + 1 + 1 + 1, 0, none⟩ (.slice (some ⟨g2, 0, none⟩) 1 cap)).alloc (.cells #[.slice none 0 0] 35)).alloc (.cells #[F] 152)).cell? ⟨g2, 0, none⟩ = some (.string s) := by
  obtain ⟨hL, hb, hg, hx⟩ := h
  have hlt := hb.lt
  have hL3 := hL.grown (grown_set (World.grownBy.refl w2 (some (w.heap.size + 1 + 1 + 1 + 1 + 1))) 0 (.slice (some ⟨g2, 0, none⟩) 1 cap)) (by omega)
  have hb3 := hb.set_ 0 (.slice (some ⟨g2, 0, none⟩) 1 cap)
  have hne : g2 ≠ w.heap.size + 1 + 1 + 1 + 1 + 1 := by
    rintro rfl
    cases ((show w2.heap[_]? = _ from hg).symm.trans (show w2.heap[_]? = _ from hb))
  have hx3 : (w2.setCell ⟨w.heap.size + 1 + 1 + 1 + 1 + 1, 0, none⟩ (.slice (some ⟨g2, 0, none⟩) 1 cap)).cell? ⟨g2, 0, none⟩ = some (.string s) := (World.cell?_of_block (a := ⟨g2, 0, none⟩) (Below.heap_setCell w2 ⟨w.heap.size + 1 + 1 + 1 + 1 + 1, 0, none⟩ _ g2 hne)).trans hx
  have hsz : (w2.setCell ⟨w.heap.size + 1 + 1 + 1 + 1 + 1, 0, none⟩ (.slice (some ⟨g2, 0, none⟩) 1 cap)).heap.size = w2.heap.size := World.size_setCell ..
  generalize w2.setCell ⟨w.heap.size + 1 + 1 + 1 + 1 + 1, 0, none⟩ (.slice (some ⟨g2, 0, none⟩) 1 cap) = W3 at *
  rw [← hsz] at hlt ⊢
  have hbb := below2 W3 (.cells #[.slice none 0 0] 35) (.cells #[F] 152)
  exact ⟨hL3.on hbb, hb3.below hbb hlt, (heap_alloc_old _ _ _ (by simp)).trans (heap_alloc_new W3 _), blk_new2 W3 _ 152 #[F], pw_cell_below hbb hx3⟩
set_option maxHeartbeats 8000000 in
set_option maxRecDepth 100000 in
theorem least1 {s : ByteArray} (hs : IsV s) (g c bt n : Nat) (w : World) (ha : AtomAt w g s) (ht : w.heap[bt]? = some (.map #[] n)) : Calls Tryz.prog 58 #[.agg #[.slice (some ⟨g, 0, none⟩) 1 c], .map (some bt)] w fun e w' => ∃ g' c', e = .returned (.agg #[.slice (some ⟨g', 0, none⟩) 1 c']) ∧ AtomAt w' g' sV ∧ Below w.heap.size w w' := by
  obtain ⟨hL, hE, hH⟩ := lw_start w g c
  have HL := Aside0.mk (And.intro hL (And.intro hE hH))
  have HA := Aside0.mk (And.intro ha ht)
  have hmm := @run_makeMap Tryz.prog
  clear hL hE hH ha ht
  go_enter Tryz.func58, Tryz.ntmps58
  go_wp2_with fail
  clear hmm
  go_at_call 85
  refine (Variables1 hs g c _ (HA.out.1.below HL.out.1.below)).mono ?_
  rintro e w1 ⟨g1, c1, rfl, hx1, hb1⟩
  have hL1 := HL.out.1.on hb1
  have hE1 := HL.out.2.1.below hb1 HL.out.2.1.lt
  have hH1 := HL.out.2.2.below hb1 HL.out.2.2.lt
  have hm1 : w1.heap[bt]? = some (.map #[] n) := ((HL.out.1.below.trans (hb1.mono HL.out.1.below.size)).block bt (Array.getElem?_eq_some_iff.1 HA.out.2).1).trans HA.out.2
  have hl := look_empty w1 bt n s hm1
  have h0 := (hH1.below (below1 w1 (.cells #[.string s] 9)) hH1.lt).cell 0
  have h00 := hH1.cell 0
  obtain ⟨g2, cap, w2, hrun, ⟨cur2, hg2⟩, hx2, hgr⟩ := app_str_at w1 _ hE1 s
  have hL2 := hL1.grown hgr (by omega)
  have hH2 := (hgr.block _ hH1.lt (by simp)).trans hH1
  have hb2 : Blk w2 (w.heap.size + 1 + 1 + 1 + 1 + 1) 64 #[.slice (some ⟨w.heap.size + 1 + 1 + 1 + 1, 0, none⟩) 0 0] := hH2
  have k0 := hb2.cell 0
  have kf := hb2.frozen 0
  have HW2 := Aside0.mk (And.intro hL2 (And.intro hb2 (And.intro hg2 hx2)))
  clear hL1 hE1 hH1 hm1 hgr hL2 hH2 hb2 hg2 hx2 hb1
  go_wp2
  refine wp_loop_rounds 3 (rounds_intro ?_)
  go_wp2_with (at_builtin; refine wpList_append_run (o := ⟨some 35, _, _, _, _, _⟩) rfl (.tmp 32) (.tmp 34) 64 64 rfl rfl _ _ _ rfl rfl hrun ?_)
  obtain ⟨hL5, hH5, hS5, hF5, hx5⟩ := least_world w g c g2 cap s w2 (.func (.func 95) #[] (caps (w.heap.size + 1 + 1 + 1 + 1 + 1) w.heap.size (w.heap.size + 1 + 1 + 1) w2.heap.size (w2.heap.size + 1))) cur2 HW2.out
  have t5 := hF5.cell 0
  have H5 := Aside0.mk (And.intro hL5 (And.intro hH5 (And.intro hS5 (And.intro hF5 hx5))))
  clear hL5 hH5 hS5 hF5 hx5 k0 kf h0 h00 hl
  refine rounds_intro ?_
  go_wp2_with fail
  go_at_call 95
  have hS := H5.out.2.2.1.lt
  have hh := try1 hs w.heap.size w (w.heap.size + 1 + 1 + 1 + 1 + 1) w.heap.size (w.heap.size + 1 + 1 + 1) w2.heap.size (w2.heap.size + 1) g2 cap g c (w.heap.size + 1 + 1) 0 _ (H5.out.2.1.cell 0) H5.out.2.2.2.2 (H5.out.1.np.cell 0) (HA.out.1.below H5.out.1.below) (H5.out.1.nm.cell 0) H5.out.1.bm H5.out.2.2.1 (H5.out.2.2.2.1.cell 0) H5.out.1.below H5.out.1.below.size HW2.out.1.below.size (by omega)
  refine hh.mono ?_
  clear hh
  rintro e w6 ⟨rfl, g6, c6, hb6, ha6, hbl6, hk6⟩
  have hr6 : Blk w6 (w.heap.size + 1) 35 #[.slice none 0 0] := (hk6 _ H5.out.1.nr.lt (by have := HW2.out.2.1.lt; omega) (by omega)).trans H5.out.1.nr
  have b60 := hb6.cell 0
  have r60 := hr6.cell 0
  have rf := hr6.frozen 0
  have hne : g6 ≠ w.heap.size + 1 := by
    rintro rfl
    have h1 := ha6.1
    rw [r60] at h1
    cases h1
  have r7 := (hr6.set_ 0 (.slice (some ⟨g6, 0, none⟩) 1 c6)).cell 0
  have HE := Aside0.mk (And.intro (ha6.far (p := ⟨w.heap.size + 1, 0, none⟩) hne (.slice (some ⟨g6, 0, none⟩) 1 c6)) (hbl6.setCell (p := ⟨w.heap.size + 1, 0, none⟩) (by simp) (.slice (some ⟨g6, 0, none⟩) 1 c6)))
  clear hb6 ha6 hbl6 hk6 hr6 hne t5 hrun hx1
  go_wp2
  refine bodyPost_ret (v := .agg #[.slice (some ⟨g6, 0, none⟩) 1 c6]) (by simp [results, Tryz.results58, go_sem, r7]) rfl ?_
  exact ⟨g6, c6, rfl, HE.out.1, HE.out.2⟩
end Go.Proofs.YtfoojamabjpdpaaGreatDoor.Led
