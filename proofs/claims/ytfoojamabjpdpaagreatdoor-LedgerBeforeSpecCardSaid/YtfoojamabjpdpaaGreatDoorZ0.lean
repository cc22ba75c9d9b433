import Derived.Test.YtfoojamabjpdpaaGreatDoorZ
/- The worlds of sane's first half: facts. -/
namespace Go.Proofs.YtfoojamabjpdpaaGreatDoor.Led
open Go.RowKit Go.Proofs.YtfoojamabjpdpaaGreatDoorW.PrintWords Go.Proofs.YtfoojamabjpdpaaGreatDoorW.PrintLast Go.Proofs.YtfoojamabjpdpaaGreatDoorW.PrintMore Go.Proofs.YtfoojamabjpdpaaGreatDoor.PLedgerBeforeSpec
attribute [local go_sem] max2_int min2_int max_two min_two max_three min_three max_four min_four
attribute [local go_sem] ba_get ba_size List.getElem_toArray List.getElem_cons_zero List.getElem_cons_succ List.size_toArray List.length_cons List.length_nil
set_option linter.unusedVariables false
set_option linter.unusedSimpArgs false
theorem step_below {W W1 : World} (h : Below W.heap.size W W1) (o : Obj) : Below W.heap.size W (W1.alloc o) := h.alloc h.size o
abbrev sXx : ByteArray := ⟨#[63, 120]⟩
abbrev sOo : ByteArray := ⟨#[63, 111, 116, 104, 101, 114]⟩
abbrev V3 (w : World) : World := ((w.alloc (.cells (led (.slice none 0 0)) 24)).alloc (.cells (atomA sXx) 32)).alloc (.cells #[.slice (some ⟨w.heap.size + 1, 0, none⟩) 1 1] 35)
theorem V3_size (w : World) : (V3 w).heap.size = w.heap.size + 3 := by simp [V3]
theorem V3_below (w : World) : Below w.heap.size w (V3 w) := below3 w _ _ _
theorem V3_atom (w : World) : AtomAt (V3 w) (w.heap.size + 1) sXx := by
  have k : ∀ j, ((w.alloc (.cells (led (.slice none 0 0)) 24)).alloc (.cells (atomA sXx) 32)).cell? ⟨w.heap.size + 1, j, none⟩ = (atomA sXx)[j]? := fun j => cell_new2 w _ _ 32 j
  exact AtomAt.below ⟨k 0, k 1, k 2, k 3, k 4, k 5⟩ (below1 _ _)
theorem V3_part (w : World) : (V3 w).cell? ⟨w.heap.size + 2, 0, none⟩ = some (.slice (some ⟨w.heap.size + 1, 0, none⟩) 1 1) := by
  have := cell_new ((w.alloc (.cells (led (.slice none 0 0)) 24)).alloc (.cells (atomA sXx) 32)) #[.slice (some ⟨w.heap.size + 1, 0, none⟩) 1 1] 35 (0, 0) 0
  simp only [World.size_alloc] at this
  exact this
theorem V3_led (w : World) (j : Nat) (v : Value) (h : (led (.slice none 0 0))[j]? = some v) : (V3 w).cell? ⟨w.heap.size, j, none⟩ = some v :=
  pw_cell_below (below1 _ _) (pw_cell_below (below1 (w.alloc (.cells (led (.slice none 0 0)) 24)) _) ((cell_new w (led (.slice none 0 0)) 24 (0, 0) j).trans h))
theorem EntryAt.not_atom {W : World} {ge g c b : Nat} (h : EntryAt W ge g c) (ha : AtomAt W b sXx) : ge ≠ b ∧ g ≠ b := by
  constructor
  · rintro rfl
    have := h.p.symm.trans ha.2.1
    simp at this
  · rintro rfl
    have := h.a.2.2.1.symm.trans ha.2.2.1
    simp at this
theorem V3_blk (w : World) : Blk (V3 w) (w.heap.size + 1) 32 (atomA sXx) := (heap_alloc_old _ _ (by simp)).trans (blk_new2 w _ _ _)
/-- The world behind the store of "?other": everything that sane reads from there on. -/
structure At7 (w w3 W : World) (ge g c ce n8 : Nat) : Prop where
  low : Below w.heap.size w W
  t5 : ∀ j v, (led (.slice none 0 0))[j]? = some v → W.cell? ⟨w3.heap.size, j, none⟩ = some v
  part : W.cell? ⟨w3.heap.size + 1 + 1, 0, none⟩ = some (.slice (some ⟨w3.heap.size + 1, 0, none⟩) 1 1)
  atom : AtomAt W (w3.heap.size + 1) sOo
  t8 : ∀ j v, (led (.slice (some ⟨ge, 0, none⟩) 1 ce))[j]? = some v → W.cell? ⟨n8, j, none⟩ = some v
  entry : EntryAt W ge g c
theorem At7.below {w w3 W W' : World} {ge g c ce n8 : Nat} (h : At7 w w3 W ge g c ce n8) (hb : Below W.heap.size W W') : At7 w w3 W' ge g c ce n8 :=
  ⟨h.low.trans (hb.mono h.low.size), fun j v q => pw_cell_below hb (h.t5 j v q), pw_cell_below hb h.part, h.atom.below hb, fun j v q => pw_cell_below hb (h.t8 j v q), h.entry.below hb⟩
theorem at7_start {w w3 w6 : World} {ge g c ce : Nat} (h3 : Below w.heap.size w w3) (h6 : Below (V3 w3).heap.size (V3 w3) w6) (hE : EntryAt w6 ge g c) :
    At7 w w3 ((w6.alloc (.cells (led (.slice (some ⟨ge, 0, none⟩) 1 ce)) 24)).setCell ⟨w3.heap.size + 1, 2, none⟩ (.string sOo)) ge g c ce w6.heap.size := by
  have hs3 := V3_size w3
  have hs6 := h6.size
  have hb7 := below1 w6 (.cells (led (.slice (some ⟨ge, 0, none⟩) 1 ce)) 24)
  have ha6 : AtomAt w6 (w3.heap.size + 1) sXx := (V3_atom w3).below h6
  obtain ⟨n1, n2⟩ := hE.not_atom ha6
  have k : ∀ b j, b ≠ w3.heap.size + 1 → ((w6.alloc (.cells (led (.slice (some ⟨ge, 0, none⟩) 1 ce)) 24)).setCell ⟨w3.heap.size + 1, 2, none⟩ (.string sOo)).cell? ⟨b, j, none⟩ = (w6.alloc (.cells (led (.slice (some ⟨ge, 0, none⟩) 1 ce)) 24)).cell? ⟨b, j, none⟩ :=
    fun b j hb => World.cell?_of_block (a := ⟨b, j, none⟩) (Below.heap_setCell _ ⟨w3.heap.size + 1, 2, none⟩ _ b hb)
  have B : Blk (w6.alloc (.cells (led (.slice (some ⟨ge, 0, none⟩) 1 ce)) 24)) (w3.heap.size + 1) 32 (atomA sXx) := ((V3_blk w3).below h6 (by omega)).below hb7 (by omega)
  have B2 := B.set_ 2 (.string sOo)
  refine ⟨?_, ?_, ?_, ?_, ?_, ?_⟩
  · have h4 := h3.trans ((V3_below w3).mono h3.size)
    have h5 := h4.trans (h6.mono h4.size)
    exact below_set (h5.trans (hb7.mono h5.size)) (by have := h3.size; omega)
  · intro j v q
    rw [k _ _ (by omega)]
    exact pw_cell_below hb7 (pw_cell_below h6 (V3_led w3 j v q))
  · rw [k _ _ (by omega)]
    have q := pw_cell_below h6 (V3_part w3)
    exact pw_cell_below hb7 q
  · exact ⟨(B2.cell 0).trans rfl, (B2.cell 1).trans rfl, (B2.cell 2).trans rfl, (B2.cell 3).trans rfl, (B2.cell 4).trans rfl, (B2.cell 5).trans rfl⟩
  · intro j v q
    rw [k _ _ (by omega)]
    exact (cell_new w6 _ 24 (0, 0) j).trans q
  · exact (hE.below hb7).far (p := ⟨w3.heap.size + 1, 2, none⟩) n1 n2 _
theorem at7_part {w3 w6 : World} (h6 : Below (V3 w3).heap.size (V3 w3) w6) (o : Obj) : (w6.alloc o).cell? ⟨w3.heap.size + 1 + 1, 0, none⟩ = some (.slice (some ⟨w3.heap.size + 1, 0, none⟩) 1 1) := by
  have q := pw_cell_below h6 (V3_part w3)
  exact pw_cell_below (below1 w6 o) q
theorem at7_var {w3 w6 : World} (h6 : Below (V3 w3).heap.size (V3 w3) w6) (o : Obj) : (w6.alloc o).cell? ⟨w3.heap.size + 1, 2, none⟩ = some (.string sXx) := by
  have q := pw_cell_below h6 (V3_atom w3).2.2.1
  exact pw_cell_below (below1 w6 o) q
end Go.Proofs.YtfoojamabjpdpaaGreatDoor.Led
