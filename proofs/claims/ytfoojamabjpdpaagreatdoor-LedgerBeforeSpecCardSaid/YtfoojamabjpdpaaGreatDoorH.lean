import Derived.Test.YtfoojamabjpdpaaGreatDoorG
/- Closed runs: Clone, replaced, Tidy. -/
namespace Go.Proofs.YtfoojamabjpdpaaGreatDoor.Led
open Go.RowKit Go.Proofs.YtfoojamabjpdpaaGreatDoorW.PrintWords Go.Proofs.YtfoojamabjpdpaaGreatDoorW.PrintLast Go.Proofs.YtfoojamabjpdpaaGreatDoorW.PrintMore
attribute [local go_sem] max2_int min2_int max_two min_two max_three min_three max_four min_four
attribute [local go_sem] ba_get ba_size List.getElem_toArray List.getElem_cons_zero List.getElem_cons_succ List.size_toArray List.length_cons List.length_nil
set_option linter.unusedVariables false
set_option linter.unusedSimpArgs false
/-- An append to a row that was made empty. -/
theorem append_made {W : World} {t e : TypeId} {z : Value} {size bytes : Nat} (ht : Tryz.prog.underlying t = some (.slice e)) (hinfo : (Tryz.prog.info? e).map (fun i => (i.zero, i.size, i.bytes)) = some (some z, size, bytes)) (hzs : z.cells.size = size) (hsz : 0 < size) (ad : Addr) (m c : Nat) (news : List Value) (hm : 0 < m)
    (hl : news.length = m * size) (hcells : ∀ j u, news[j]? = some u → W.cell? (ad.add j) = some u) (h1 : ∀ u ∈ news, u.oneCell' = true) (h63 : m ≤ maxLen) (hbytes : m * bytes ≤ 140737488355328) :
    ∃ g cap cur W', (Builtin.append_ #[t, t] t #[.slice (some ⟨W.heap.size, 0, none⟩) 0 0, .slice (some ad) m c]).run Tryz.prog (W.alloc (.cells #[] e)) = .ok (.slice (some ⟨g, 0, none⟩) m cap) W' ∧ Blk W' g e cur ∧ cur.toList.take (m * size) = news ∧ m ≤ cap ∧ W.heap.size ≤ g ∧ Below W.heap.size W W' := by
  obtain ⟨i, hi, hzz⟩ := Option.map_eq_some_iff.1 hinfo
  simp only [Prod.mk.injEq] at hzz
  obtain ⟨hz0, hz1, hz2⟩ := hzz
  have hb := below1 W (.cells #[] e)
  have ho : (W.alloc (.cells #[] e)).ownsRow W.heap.size e size (.slice (some ⟨W.heap.size, 0, none⟩) 0 0) 0 [] := ⟨by simp, .inr ⟨W.heap.size, 0, #[], rfl, Nat.le_refl _, heap_alloc_new W _, Nat.le_refl _, by simp [maxLen], by simp, by simp⟩⟩
  obtain ⟨v', W', hrun, h2, h3, _, _⟩ := run_append_own_at (P := Tryz.prog) (W.alloc (.cells #[] e)) W.heap.size t t e i z size bytes ht hi hz0 hz1 hz2 hzs hsz _ 0 [] ho ad m c news hl (fun j u hu => pw_cell_below hb (hcells j u hu)) h1 (by omega) (by rw [Nat.zero_add]; exact hbytes) hb.size
  rw [Nat.zero_add] at h2
  rcases h2.2 with ⟨_, hn⟩ | ⟨g, cap, cur, rfl, hle, hg, hnc, hcm, hsz', htk⟩
  · omega
  · exact ⟨g, cap, cur, W', hrun, hg, by rw [htk, List.nil_append], hnc, hle, hb.grown h3 hb.size (fun j e => by cases e; exact Nat.le_refl _)⟩
theorem info32 : (Tryz.prog.info? 32).map (fun i => (i.zero, i.size, i.bytes)) = some (some (.agg #[.int .i64 0, .string ⟨#[]⟩, .string ⟨#[]⟩, .string ⟨#[]⟩, .int .i64 0, .int .i64 0]), 6, 72) := by kernel_rfl
abbrev atomL (s : ByteArray) : List Value := [.int .i64 1, .string ⟨#[65]⟩, .string s, .string ⟨#[]⟩, .int .i64 0, .int .i64 0]
theorem atom_of {W : World} {g : Nat} {cur : Array Value} {s : ByteArray} (h : Blk W g 32 cur) (ht : cur.toList.take 6 = atomL s) : AtomAt W g s := by
  have k : ∀ i, i < 6 → W.cell? ⟨g, i, none⟩ = (atomL s)[i]? := fun i hi => by
    rw [cell_of_row W g i cur 32 (0, 0) h, ← Array.getElem?_toList, ← ht, List.getElem?_take_of_lt hi]
  exact ⟨k 0 (by decide), k 1 (by decide), k 2 (by decide), k 3 (by decide), k 4 (by decide), k 5 (by decide)⟩
theorem Blk.frozen {w : World} {g : Nat} {t : TypeId} {cs : Array Value} (h : Blk w g t cs) (i : Nat) : w.frozen? ⟨g, i, none⟩ = false := by
  unfold Blk at h
  simp [World.frozen?, h]
theorem AtomAt.cells {W : World} {g : Nat} {s : ByteArray} (h : AtomAt W g s) : ∀ j u, (atomL s)[j]? = some u → W.cell? ((⟨g, 0, none⟩ : Addr).add j) = some u := by
  intro j u hu
  rw [add_plain]
  obtain ⟨a0, a1, a2, a3, a4, a5⟩ := h
  match j, hu with
  | 0, hu => cases hu; exact a0
  | 1, hu => cases hu; exact a1
  | 2, hu => cases hu; exact a2
  | 3, hu => cases hu; exact a3
  | 4, hu => cases hu; exact a4
  | 5, hu => cases hu; exact a5
  | _ + 6, hu => cases hu
theorem Blk.lt {w : World} {g : Nat} {t : TypeId} {cs : Array Value} (h : Blk w g t cs) : g < w.heap.size := (Array.getElem?_eq_some_iff.1 h).1
theorem Blk.cell {w : World} {g : Nat} {t : TypeId} {cs : Array Value} (h : Blk w g t cs) (i : Nat) : w.cell? ⟨g, i, none⟩ = cs[i]? := cell_of_row w g i cs t (0, 0) h
theorem Blk.below {w w' : World} {g : Nat} {t : TypeId} {cs : Array Value} {B : Nat} (h : Blk w g t cs) (hb : Below B w w') (hg : g < B) : Blk w' g t cs := (hb.block g hg).trans h
theorem Blk.far {w : World} {g : Nat} {t : TypeId} {cs : Array Value} (h : Blk w g t cs) {p : Addr} (hp : g ≠ p.block) (u : Value) : Blk (w.setCell p u) g t cs := (Below.heap_setCell w p u g hp).trans h
theorem Blk.set_ {w : World} {g : Nat} {t : TypeId} {cs : Array Value} (h : Blk w g t cs) (i : Nat) (u : Value) : Blk (w.setCell ⟨g, i, none⟩ u) g t (cs.setIfInBounds i u) := by
  unfold Blk at h ⊢
  simp [World.setCell, Array.getElem?_modify, h]
set_option maxRecDepth 100000 in
theorem CloneA (s : ByteArray) (g c : Nat) (w : World) (h : AtomAt w g s) : Calls Tryz.prog 128 #[.slice (some ⟨g, 0, none⟩) 1 c] w fun e w' => ∃ g' c' cur, e = .returned (.slice (some ⟨g', 0, none⟩) 1 c') ∧ Blk w' g' 32 cur ∧ cur.toList.take 6 = atomL s ∧ w.heap.size ≤ g' ∧ Below w.heap.size w w' := by
  obtain ⟨g', cap, cur, W', hrun, hg, htk, hc, hle, hb⟩ := append_made (W := w) (t := 33) (e := 32) Tryz.underlying33 info32 rfl (by decide) ⟨g, 0, none⟩ 1 c (atomL s) (by decide) rfl h.cells (by intro u hu; simp at hu; rcases hu with rfl | rfl | rfl | rfl | rfl | rfl <;> rfl) (by simp only [maxLen]; omega) (by decide)
  have HE := Aside0.mk (And.intro hg (And.intro htk (And.intro hle hb)))
  have hnil : ∀ W, (binOp .eql 33 (.slice (some ⟨g, 0, none⟩) 1 c) (.slice none 0 0)).run Tryz.prog W = .ok (.bool false) W := fun W => by rfl
  clear hg htk hc hle hb h
  go_enter Tryz.func128, Tryz.ntmps128
  go_wp2_with (at_builtin; refine wpList_append_run (o := ⟨some 7, _, _, _, _, _⟩) rfl (.tmp 5) (.tmp 6) 33 33 rfl rfl _ _ _ rfl rfl hrun ?_)
  go_ret
  exact ⟨g', cap, cur, rfl, HE.out.1, HE.out.2.1, HE.out.2.2.1, HE.out.2.2.2⟩

theorem blk_new2 (W : World) (o : Obj) (t : TypeId) (cs : Array Value) : Blk ((W.alloc o).alloc (.cells cs t)) (W.heap.size + 1) t cs := by
  have := heap_alloc_new (W.alloc o) (.cells cs t)
  rwa [World.size_alloc] at this
/-- The map of one text: a variable's canonical name. -/
def MapV (W : World) (b : Nat) (s : ByteArray) : Prop := ∃ n m, W.heap[b]? = some (.map #[{ key := .string s, val := .string sV, born := m }] n)
theorem MapV.below {W W' : World} {b : Nat} {s : ByteArray} (h : MapV W b s) (hb : Below W.heap.size W W') : MapV W' b s := by
  obtain ⟨n, m, h⟩ := h
  exact ⟨n, m, (hb.block b (Array.getElem?_eq_some_iff.1 h).1).trans h⟩
theorem MapV.far {W : World} {b : Nat} {s : ByteArray} (h : MapV W b s) {p : Addr} (hp : b ≠ p.block) (u : Value) : MapV (W.setCell p u) b s := by
  obtain ⟨n, m, h⟩ := h
  exact ⟨n, m, (Below.heap_setCell W p u b hp).trans h⟩
theorem MapV.hit {W : World} {b : Nat} {s : ByteArray} (hs : IsV s) (h : MapV W b s) : (Instr.lookup 107 (.map (some b)) (.string s) true).run Tryz.prog W = .ok (.tuple #[.string sV, .bool true]) W := by
  obtain ⟨n, m, h⟩ := h
  exact look_one W b n m s s (.string sV) true (by rcases hs with rfl | rfl | rfl <;> kernel_rfl) h
theorem MapV.miss {W : World} {b : Nat} {s : ByteArray} (hs : IsV s) (h : MapV W b s) : (Instr.lookup 107 (.map (some b)) (.string ⟨#[]⟩) true).run Tryz.prog W = .ok (.tuple #[.string ⟨#[]⟩, .bool false]) W := by
  obtain ⟨n, m, h⟩ := h
  exact look_one W b n m ⟨#[]⟩ s (.string sV) false (by rcases hs with rfl | rfl | rfl <;> kernel_rfl) h
set_option maxHeartbeats 8000000 in
set_option maxRecDepth 100000 in
theorem replaced1 {s : ByteArray} (hs : IsV s) (g c b : Nat) (w : World) (h : AtomAt w g s) (hm : MapV w b s) : Calls Tryz.prog 97 #[.agg #[.slice (some ⟨g, 0, none⟩) 1 c], .map (some b)] w fun e w' => ∃ g' c', e = .returned (.agg #[.slice (some ⟨g', 0, none⟩) 1 c']) ∧ AtomAt w' g' sV ∧ Below w.heap.size w w' := by
  have hb2 := below2 w (.cells #[.slice (some ⟨g, 0, none⟩) 1 c] 35) (.cells #[.slice none 0 0] 35)
  have HA := Aside0.mk (h.below hb2)
  have HM := Aside0.mk (hm.below hb2)
  have HB := Aside0.mk hb2
  have HR := Aside0.mk (show Blk ((w.alloc (.cells #[.slice (some ⟨g, 0, none⟩) 1 c] 35)).alloc (.cells #[.slice none 0 0] 35)) (w.heap.size + 1) 35 #[.slice none 0 0] from blk_new2 w _ _ _)
  clear h hm hb2
  go_enter Tryz.func97, Tryz.ntmps97
  go_wp2_with fail
  go_at_call 128
  refine (CloneA s g c _ HA.out).mono ?_
  rintro e w1 ⟨g', c', cur, rfl, hg, htk, hle, hb⟩
  have HG := Aside0.mk (And.intro hg (And.intro htk (And.intro hle hb)))
  have HM1 := Aside0.mk (HM.out.below hb)
  have f0 := hg.frozen 0
  clear hg htk hle hb
  go_wp2
  refine wp_loop_rounds 3 (rounds_intro ?_)
  go_wp2
  go_region
  go_wp2
  have hg3 : Blk (w1.alloc (.cells #[.pointer (some ⟨g', 2, none⟩), .pointer (some ⟨g', 3, none⟩)] 184)).drew g' 32 cur := HG.out.1.below (pw_below_drewN (below1 w1 _) 1) HG.out.1.lt
  have hp3 : Blk (w1.alloc (.cells #[.pointer (some ⟨g', 2, none⟩), .pointer (some ⟨g', 3, none⟩)] 184)).drew w1.heap.size 184 #[.pointer (some ⟨g', 2, none⟩), .pointer (some ⟨g', 3, none⟩)] := heap_alloc_new w1 _
  have hr3 : Blk (w1.alloc (.cells #[.pointer (some ⟨g', 2, none⟩), .pointer (some ⟨g', 3, none⟩)] 184)).drew (w.heap.size + 1) 35 #[.slice none 0 0] := (HR.out.below HG.out.2.2.2 HR.out.lt).below (pw_below_drewN (below1 w1 _) 1) (Nat.lt_of_lt_of_le HR.out.lt HG.out.2.2.2.size)
  have hm3 : MapV (w1.alloc (.cells #[.pointer (some ⟨g', 2, none⟩), .pointer (some ⟨g', 3, none⟩)] 184)).drew b s := HM1.out.below (pw_below_drewN (below1 w1 _) 1)
  have hb3 : Below w.heap.size w (w1.alloc (.cells #[.pointer (some ⟨g', 2, none⟩), .pointer (some ⟨g', 3, none⟩)] 184)).drew := (HB.out.trans (HG.out.2.2.2.mono HB.out.size)).trans ((pw_below_drewN (below1 w1 _) 1).mono (Nat.le_trans HB.out.size HG.out.2.2.2.size))
  have hne : g' ≠ w1.heap.size := by have := HG.out.1.lt; omega
  have hrg : w.heap.size + 1 ≠ g' := by have := HG.out.2.2.1; simp at this; omega
  have hbm : b ≠ g' := by
    rintro rfl
    obtain ⟨n, m, hm⟩ := hm3
    exact absurd (hm.symm.trans (show _ = _ from hg3)) (by simp)
  generalize (w1.alloc (.cells #[.pointer (some ⟨g', 2, none⟩), .pointer (some ⟨g', 3, none⟩)] 184)).drew = W3 at *
  obtain ⟨a0, a1, a2, a3, a4, a5⟩ := atom_of hg3 HG.out.2.1
  have g4 := hg3.set_ 2 (.string sV)
  have t4 : (cur.setIfInBounds 2 (.string sV)).toList.take 6 = atomL sV := by
    have := HG.out.2.1
    rw [Array.toList_setIfInBounds, List.take_set, this]
    rfl
  obtain ⟨b0, b1, b2, b3, b4, b5⟩ := atom_of g4 t4
  have p0 := hp3.cell 0
  have p1 := (hp3.far (p := ⟨g', 2, none⟩) (Ne.symm hne) (.string sV)).cell 1
  have f2 := hg3.frozen 2
  have l1 := hm3.hit hs
  have l2 := (hm3.far (p := ⟨g', 2, none⟩) hbm (.string sV)).miss hs
  have r4 := hr3.far (p := ⟨g', 2, none⟩) hrg (.string sV)
  have r0 := r4.cell 0
  have rf := r4.frozen 0
  have r5 := (r4.set_ 0 (.slice (some ⟨g', 0, none⟩) 1 c')).cell 0
  have HF := Aside0.mk (And.intro (g4.far (p := ⟨w.heap.size + 1, 0, none⟩) (Ne.symm hrg) (.slice (some ⟨g', 0, none⟩) 1 c')) (And.intro t4 ((hb3.setCell (p := ⟨g', 2, none⟩) (Nat.le_trans HB.out.size HG.out.2.2.1) (.string sV)).setCell (p := ⟨w.heap.size + 1, 0, none⟩) (by simp) (.slice (some ⟨g', 0, none⟩) 1 c'))))
  clear hr3 r4 hrg hg3 hp3 hm3 g4 t4 hne hbm hb3 HM1
  refine wp_loop_rounds 4 (rounds_intro ?_)
  go_wp2
  refine rounds_intro ?_
  go_wp2
  refine rounds_intro ?_
  go_wp2
  clear a0 a1 a2 a3 a4 a5 b0 b1 b2 b3 b4 b5 p0 p1 f2 l1 l2
  refine rounds_intro ?_
  go_wp2
  refine bodyPost_ret (v := .agg #[.slice (some ⟨g', 0, none⟩) 1 c']) (by simp [results, Tryz.results97, go_sem, r5]) rfl ?_
  exact ⟨g', c', rfl, atom_of HF.out.1 HF.out.2.1, HF.out.2.2⟩
end Go.Proofs.YtfoojamabjpdpaaGreatDoor.Led
