import Derived.RangeFuncOwn
import Derived.Test.YtfoojamabjpdpaaGreatDoorI
/- Closed runs: the closure that tries names, at 1; least. -/
namespace Go.Proofs.YtfoojamabjpdpaaGreatDoor.Led
open Go.RowKit Go.Proofs.YtfoojamabjpdpaaGreatDoorW.PrintWords Go.Proofs.YtfoojamabjpdpaaGreatDoorW.PrintLast Go.Proofs.YtfoojamabjpdpaaGreatDoorW.PrintMore
attribute [local go_sem] max2_int min2_int max_two min_two max_three min_three max_four min_four
attribute [local go_sem] ba_get ba_size List.getElem_toArray List.getElem_cons_zero List.getElem_cons_succ List.size_toArray List.length_cons List.length_nil
set_option linter.unusedVariables false
set_option linter.unusedSimpArgs false
theorem ne_map {W : World} {b n : Nat} {es : Array MapEntry} (hb : W.heap[b]? = some (.map es n)) {a : Addr} {v : Value} (hc : W.cell? a = some v) : a.block ≠ b := by
  intro e
  unfold World.cell? at hc
  rw [e, hb] at hc
  simp at hc
theorem cell_map {W : World} {b n : Nat} {es : Array MapEntry} (o : Obj) (hb : W.heap[b]? = some (.map es n)) {a : Addr} {v : Value} (hc : W.cell? a = some v) : (W.putObj b o).cell? a = some v :=
  (World.cell?_of_block (World.putObj_heap_other (ne_map hb hc))).trans hc
theorem AtomAt.map {W : World} {b n : Nat} {es : Array MapEntry} (o : Obj) (hb : W.heap[b]? = some (.map es n)) {g : Nat} {s : ByteArray} (h : AtomAt W g s) : AtomAt (W.putObj b o) g s :=
  ⟨cell_map o hb h.1, cell_map o hb h.2.1, cell_map o hb h.2.2.1, cell_map o hb h.2.2.2.1, cell_map o hb h.2.2.2.2.1, cell_map o hb h.2.2.2.2.2⟩
theorem Blk.map {W : World} {b n : Nat} {es : Array MapEntry} (o : Obj) (hb : W.heap[b]? = some (.map es n)) {g : Nat} {t : TypeId} {cs : Array Value} (h : Blk W g t cs) : Blk (W.putObj b o) g t cs :=
  (World.putObj_heap_other (by rintro rfl; rw [show _ = _ from h] at hb; cases hb)).trans h
theorem app_v1 : (⟨#[63, 118]⟩ : ByteArray) ++ ⟨#[49]⟩ = ⟨#[63, 118, 49]⟩ := by rfl
/-- What the closure has captured. -/
abbrev caps (nh np nm nb nt : Nat) : Array Value := #[.pointer (some ⟨nh, 0, none⟩), .pointer (some ⟨np, 0, none⟩), .pointer (some ⟨nm, 0, none⟩), .pointer (some ⟨nb, 0, none⟩), .pointer (some ⟨nt, 0, none⟩)]
set_option maxHeartbeats 8000000 in
set_option maxRecDepth 100000 in
theorem try1 {s : ByteArray} (hs : IsV s) (B : Nat) (w0 : World) (nh np nm nb nt gh ch g c bm n : Nat) (w : World) (hid : w.cell? ⟨nh, 0, none⟩ = some (.slice (some ⟨gh, 0, none⟩) 1 ch)) (hv : w.cell? ⟨gh, 0, none⟩ = some (.string s)) (hp : w.cell? ⟨np, 0, none⟩ = some (.slice (some ⟨g, 0, none⟩) 1 c)) (ha : AtomAt w g s) (hn : w.cell? ⟨nm, 0, none⟩ = some (.map (some bm))) (hm : w.heap[bm]? = some (.map #[] n)) (hbst : Blk w nb 35 #[.slice none 0 0])
    (ht : w.cell? ⟨nt, 0, none⟩ = some (.func (.func 95) #[] (caps nh np nm nb nt))) (hB : Below B w0 w) (hBw : B ≤ w.heap.size) (hBb : B ≤ nb) (hBm : B ≤ bm) :
    Calls Tryz.prog 95 #[.int .i64 1, .pointer (some ⟨nh, 0, none⟩), .pointer (some ⟨np, 0, none⟩), .pointer (some ⟨nm, 0, none⟩), .pointer (some ⟨nb, 0, none⟩), .pointer (some ⟨nt, 0, none⟩)] w fun e w' => e = .returned (.tuple #[]) ∧ ∃ g' c', Blk w' nb 35 #[.slice (some ⟨g', 0, none⟩) 1 c'] ∧ AtomAt w' g' sV ∧ Below B w0 w' ∧ ∀ k, k < w.heap.size → k ≠ nb → k ≠ bm → w'.heap[k]? = w.heap[k]? := by
  have hl := look_empty w bm n s hm
  have HM := Aside0.mk hm
  have HA := Aside0.mk ha
  have HN := Aside0.mk hbst
  have HB := Aside0.mk (And.intro hB (And.intro hBw (And.intro hBb hBm)))
  have hu := fun k => upd_first (w.drewN k) bm n s (.string sV) hm
  have hu1 := upd_first w.drew bm n s (.string sV) hm
  have hap := app_v1
  have hmd : w.drew.heap[bm]? = some (.map #[] n) := hm
  have O1 : Obj := .map #[{ key := .string s, val := .string sV, born := n }] (n + 1)
  have F := And.intro (cell_map (W := w.drew) (.map #[{ key := .string s, val := .string sV, born := n }] (n + 1)) hmd (show w.drew.cell? _ = _ from hid)) (And.intro (cell_map (W := w.drew) (.map #[{ key := .string s, val := .string sV, born := n }] (n + 1)) hmd (show w.drew.cell? _ = _ from hp))
    (And.intro (AtomAt.map (W := w.drew) (.map #[{ key := .string s, val := .string sV, born := n }] (n + 1)) hmd (show AtomAt w.drew g s from ha)) (And.intro (cell_map (W := w.drew) (.map #[{ key := .string s, val := .string sV, born := n }] (n + 1)) hmd (show w.drew.cell? _ = _ from hn))
    (And.intro (World.putObj_heap_same (w := w.drew) (o := .map #[{ key := .string s, val := .string sV, born := n }] (n + 1)) (Array.getElem?_eq_some_iff.1 hmd).1) (And.intro (Blk.map (W := w.drew) (.map #[{ key := .string s, val := .string sV, born := n }] (n + 1)) hmd (show Blk w.drew nb 35 #[.slice none 0 0] from hbst))
    (And.intro (cell_map (W := w.drew) (.map #[{ key := .string s, val := .string sV, born := n }] (n + 1)) hmd (show w.drew.cell? _ = _ from ht)) (And.intro ((pw_below_drewN hB 1).grown (grownBy_putObj' w.drew bm (.map #[{ key := .string s, val := .string sV, born := n }] (n + 1))) hBw (fun j e => by cases e; exact hBm))
    (World.putObj_size (w := w.drew) (r := bm) (o := .map #[{ key := .string s, val := .string sV, born := n }] (n + 1))))))))))
  have ht1 := F.2.2.2.2.2.2.1
  have hn1 := F.2.2.2.1
  have FF := Aside0.mk F
  clear F O1 hmd ha hbst hB hBw hBb hBm hm
  go_enter Tryz.func95, Tryz.ntmps95
  go_wp2
  refine wp_loop_rounds 3 (rounds_intro ?_)
  go_wp2_with fail
  go_region_with (go_at_call 57; refine (Itoa1 _).mono ?_; rintro e w' ⟨rfl, rfl⟩)
  all_goals
    go_wp2_with fail
    go_at_call 95
    have hh := try2 hs nh np nm nb nt gh ch g c bm _ FF.out.1 FF.out.2.1 FF.out.2.2.1 FF.out.2.2.2.1 ⟨_, _, FF.out.2.2.2.2.1⟩ FF.out.2.2.2.2.2.1
    refine hh.mono ?_
    clear hh
    rintro e w2 ⟨rfl, g2, c2, hb2, ha2, hg2⟩
    have hnb : bm ≠ nb := by
      rintro rfl
      have h1 := FF.out.2.2.2.2.1
      rw [show _ = _ from FF.out.2.2.2.2.2.1] at h1
      cases h1
    have hnn : nm ≠ nb := by
      rintro rfl
      have h1 := FF.out.2.2.2.1
      have h2 := FF.out.2.2.2.2.2.1.cell 0
      rw [h1] at h2
      cases h2
    have hm2 := (hg2.block bm (by have := FF.out.2.2.2.2.1; exact (Array.getElem?_eq_some_iff.1 this).1) (by simpa using hnb)).trans FF.out.2.2.2.2.1
    have hn2 := hg2.cell FF.out.2.2.2.1 (by simpa using hnn)
    have hd := fun ty => del_one w2 bm (n + 1) n s (.string sV) ty (by rcases hs with rfl | rfl | rfl <;> kernel_rfl) hm2
    have hkk : ∀ k, k < w.heap.size → k ≠ nb → k ≠ bm → (w2.putObj bm (.map #[] (n + 1))).heap[k]? = w.heap[k]? := fun k hk h1 h2 => (World.putObj_heap_other h2).trans ((hg2.block k (by rw [FF.out.2.2.2.2.2.2.2.2]; exact hk) (by simpa using h1)).trans (World.putObj_heap_other (w := w.drew) h2))
    have HK := Aside0.mk hkk
    have HE := Aside0.mk (And.intro (hb2.map (.map #[] (n + 1)) hm2) (And.intro (ha2.map (.map #[] (n + 1)) hm2) ((FF.out.2.2.2.2.2.2.2.1.grown hg2 (by rw [FF.out.2.2.2.2.2.2.2.2]; exact HB.out.2.1) (fun j e => by cases e; exact HB.out.2.2.1)).grown (grownBy_putObj' w2 bm (.map #[] (n + 1))) (Nat.le_trans (by rw [FF.out.2.2.2.2.2.2.2.2]; exact HB.out.2.1) hg2.size) (fun j e => by cases e; exact HB.out.2.2.2))))
    clear hkk hb2 ha2 hg2 hnb hnn hm2 hid hv hp hn ht hl hu hu1 hap ht1 hn1
    go_wp2
    refine rounds_intro ?_
    go_wp2
    go_end0
    exact ⟨rfl, g2, c2, HE.out.1, HE.out.2.1, HE.out.2.2, HK.out⟩
end Go.Proofs.YtfoojamabjpdpaaGreatDoor.Led
