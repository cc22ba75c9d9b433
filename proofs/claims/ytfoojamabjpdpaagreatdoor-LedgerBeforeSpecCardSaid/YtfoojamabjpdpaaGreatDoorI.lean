import Derived.Test.YtfoojamabjpdpaaGreatDoorH
/- Closed runs: Tidy; the closure that tries names. -/
namespace Go.Proofs.YtfoojamabjpdpaaGreatDoor.Led
open Go.RowKit Go.Proofs.YtfoojamabjpdpaaGreatDoorW.PrintWords Go.Proofs.YtfoojamabjpdpaaGreatDoorW.PrintLast Go.Proofs.YtfoojamabjpdpaaGreatDoorW.PrintMore
attribute [local go_sem] max2_int min2_int max_two min_two max_three min_three max_four min_four
attribute [local go_sem] ba_get ba_size List.getElem_toArray List.getElem_cons_zero List.getElem_cons_succ List.size_toArray List.length_cons List.length_nil
set_option linter.unusedVariables false
set_option linter.unusedSimpArgs false
set_option maxHeartbeats 8000000 in
set_option maxRecDepth 100000 in
theorem Tidy1 (s : ByteArray) (g c : Nat) (w : World) (h : AtomAt w g s) : Calls Tryz.prog 96 #[.agg #[.slice (some ⟨g, 0, none⟩) 1 c]] w fun e w' => ∃ g' c', e = .returned (.agg #[.slice (some ⟨g', 0, none⟩) 1 c']) ∧ AtomAt w' g' s ∧ Below w.heap.size w w' := by
  have hb2 := below2 w (.cells #[.slice (some ⟨g, 0, none⟩) 1 c] 35) (.cells #[.slice none 0 0] 35)
  have HA := Aside0.mk (h.below hb2)
  have HB := Aside0.mk hb2
  have HR := Aside0.mk (show Blk ((w.alloc (.cells #[.slice (some ⟨g, 0, none⟩) 1 c] 35)).alloc (.cells #[.slice none 0 0] 35)) (w.heap.size + 1) 35 #[.slice none 0 0] from blk_new2 w _ _ _)
  clear h hb2
  go_enter Tryz.func96, Tryz.ntmps96
  go_wp2_with fail
  go_at_call 128
  refine (CloneA s g c _ HA.out).mono ?_
  rintro e w1 ⟨g', c', cur, rfl, hg, htk, hle, hb⟩
  have hr := HR.out.below hb HR.out.lt
  have hrg : w.heap.size + 1 ≠ g' := by simp at hle; omega
  have r0 := hr.cell 0
  have rf := hr.frozen 0
  have r5 := (hr.set_ 0 (.slice (some ⟨g', 0, none⟩) 1 c')).cell 0
  have HF := Aside0.mk (And.intro (atom_of (hg.far (p := ⟨w.heap.size + 1, 0, none⟩) (Ne.symm hrg) (.slice (some ⟨g', 0, none⟩) 1 c')) htk) ((HB.out.trans (hb.mono HB.out.size)).setCell (p := ⟨w.heap.size + 1, 0, none⟩) (by simp) (.slice (some ⟨g', 0, none⟩) 1 c')))
  clear hg htk hle hb hr hrg
  go_wp2_with (first | (go_at_call 129; refine (SortFunc1 _ _ _).mono ?_; rintro e w' ⟨rfl, rfl⟩) | (go_at_call 130; refine (CompactA _ _ _).mono ?_; rintro e w' ⟨rfl, rfl⟩))
  refine bodyPost_ret (v := .agg #[.slice (some ⟨g', 0, none⟩) 1 c']) (by simp [results, Tryz.results96, go_sem, r5]) rfl ?_
  exact ⟨g', c', rfl, HF.out.1, HF.out.2⟩

theorem grown_of_below {w w' : World} (hb : Below w.heap.size w w') (r : Option Nat) : w.grownBy w' r := ⟨hb.os, hb.tape, hb.output, hb.size, fun k hk _ => hb.block k hk⟩
theorem grown_set {w w' : World} {g : Nat} (h : w.grownBy w' (some g)) (j : Nat) (u : Value) : w.grownBy (w'.setCell ⟨g, j, none⟩ u) (some g) :=
  ⟨h.os, h.tape, h.output, by rw [World.size_setCell]; exact h.size, fun k hk hne => (Below.heap_setCell w' ⟨g, j, none⟩ u k (fun e => hne (by rw [e]))).trans (h.block k hk hne)⟩
theorem AtomAt.lt {W : World} {g : Nat} {s : ByteArray} (h : AtomAt W g s) : g < W.heap.size := World.block_lt_of_cell? W ⟨g, 0, none⟩ h.1
theorem AtomAt.far {W : World} {g : Nat} {s : ByteArray} (h : AtomAt W g s) {p : Addr} (hp : g ≠ p.block) (u : Value) : AtomAt (W.setCell p u) g s := by
  have k : ∀ j, (W.setCell p u).cell? ⟨g, j, none⟩ = W.cell? ⟨g, j, none⟩ := fun j => World.cell?_of_block (a := ⟨g, j, none⟩) (Below.heap_setCell W p u g hp)
  exact ⟨(k 0).trans h.1, (k 1).trans h.2.1, (k 2).trans h.2.2.1, (k 3).trans h.2.2.2.1, (k 4).trans h.2.2.2.2.1, (k 5).trans h.2.2.2.2.2⟩
set_option maxRecDepth 100000 in
theorem eqlNone33 (W : World) : (binOp .eql 33 (.slice none 0 0) (.slice none 0 0)).run Tryz.prog W = .ok (.bool true) W := by kernel_rfl
set_option maxHeartbeats 8000000 in
set_option maxRecDepth 100000 in
theorem try2 {s : ByteArray} (hs : IsV s) (nh np nm nb nt gh ch g c bm : Nat) (w : World) (hid : w.cell? ⟨nh, 0, none⟩ = some (.slice (some ⟨gh, 0, none⟩) 1 ch)) (hp : w.cell? ⟨np, 0, none⟩ = some (.slice (some ⟨g, 0, none⟩) 1 c)) (ha : AtomAt w g s) (hn : w.cell? ⟨nm, 0, none⟩ = some (.map (some bm))) (hm : MapV w bm s) (hbst : Blk w nb 35 #[.slice none 0 0]) :
    Calls Tryz.prog 95 #[.int .i64 2, .pointer (some ⟨nh, 0, none⟩), .pointer (some ⟨np, 0, none⟩), .pointer (some ⟨nm, 0, none⟩), .pointer (some ⟨nb, 0, none⟩), .pointer (some ⟨nt, 0, none⟩)] w fun e w' => e = .returned (.tuple #[]) ∧ ∃ g' c', Blk w' nb 35 #[.slice (some ⟨g', 0, none⟩) 1 c'] ∧ AtomAt w' g' sV ∧ w.grownBy w' (some nb) := by
  have HA := Aside0.mk ha
  have HM := Aside0.mk hm
  have HN := Aside0.mk hbst
  clear ha hm hbst
  go_enter Tryz.func95, Tryz.ntmps95
  go_wp2_with fail
  go_at_call 97
  refine (replaced1 hs g c bm w HA.out HM.out).mono ?_
  rintro e w1 ⟨g1, c1, rfl, ha1, hb1⟩
  have HB1 := Aside0.mk hb1
  have HN1 := Aside0.mk (HN.out.below hb1 HN.out.lt)
  have HA1 := Aside0.mk ha1
  clear ha1 hb1
  go_wp2_with fail
  go_at_call 96
  refine (Tidy1 sV g1 c1 w1 HA1.out).mono ?_
  rintro e w2 ⟨g2, c2, rfl, ha2, hb2⟩
  have hx := below1 w2 (.cells #[.slice (some ⟨g2, 0, none⟩) 1 c2] 35)
  have hn3 := (HN1.out.below hb2 HN1.out.lt).below hx (Nat.lt_of_lt_of_le (HN1.out.lt) hb2.size)
  have b0 := hn3.cell 0
  have bf := hn3.frozen 0
  have hne : g2 ≠ nb := by
    rintro rfl
    have h1 := ha2.1
    have h2 := (HN1.out.below hb2 HN1.out.lt).cell 0
    rw [h1] at h2
    cases h2
  have HE := Aside0.mk (And.intro (hn3.set_ 0 (.slice (some ⟨g2, 0, none⟩) 1 c2)) (And.intro ((ha2.below hx).far (p := ⟨nb, 0, none⟩) hne (.slice (some ⟨g2, 0, none⟩) 1 c2)) (grown_set (grown_of_below ((HB1.out.trans (hb2.mono HB1.out.size)).trans (hx.mono (Nat.le_trans HB1.out.size hb2.size))) (some nb)) 0 (.slice (some ⟨g2, 0, none⟩) 1 c2))))
  clear ha2 hb2 hx hn3 hne hid hp hn
  have he := eqlNone33
  go_wp2
  exact bodyPost_ret (v := .tuple #[]) (by simp [results, Tryz.results95, go_sem]) rfl ⟨rfl, g2, c2, HE.out.1, HE.out.2.1, HE.out.2.2⟩
end Go.Proofs.YtfoojamabjpdpaaGreatDoor.Led
