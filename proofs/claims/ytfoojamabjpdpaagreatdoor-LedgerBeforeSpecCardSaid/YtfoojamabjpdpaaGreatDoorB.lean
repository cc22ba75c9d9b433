import Derived.Test.YtfoojamabjpdpaaGreatDoorA
/- Closed runs: variables, terms, an atom's check. -/
namespace Go.Proofs.YtfoojamabjpdpaaGreatDoor.Led
open Go.RowKit Go.Proofs.YtfoojamabjpdpaaGreatDoorW.PrintWords Go.Proofs.YtfoojamabjpdpaaGreatDoorW.PrintLast Go.Proofs.YtfoojamabjpdpaaGreatDoorW.PrintMore
attribute [local go_sem] max2_int min2_int max_two min_two max_three min_three max_four min_four
attribute [local go_sem] ba_get ba_size List.getElem_toArray List.getElem_cons_zero List.getElem_cons_succ List.size_toArray List.length_cons List.length_nil
set_option linter.unusedVariables false
set_option linter.unusedSimpArgs false

abbrev sX : ByteArray := ⟨#[63, 120]⟩
abbrev sO : ByteArray := ⟨#[63, 111, 116, 104, 101, 114]⟩
abbrev sV : ByteArray := ⟨#[63, 118, 49]⟩
/-- The variables that occur in the closed run. -/
def IsV (s : ByteArray) : Prop := s = ⟨#[63, 120]⟩ ∨ s = ⟨#[63, 111, 116, 104, 101, 114]⟩ ∨ s = ⟨#[63, 118, 49]⟩
set_option maxRecDepth 100000 in
theorem isVariable_x (w : World) : Calls Tryz.prog 80 #[.string ⟨#[63, 120]⟩] w fun e w' => e = .returned (.bool true) ∧ w = w' := by
  go_enter Tryz.func80, Tryz.ntmps80
  go_wp2_with go_in
  refine wp_loop_rounds 8 (rounds_intro ?_)
  go_wp2_with go_in
  go_ret
  exact ⟨rfl, rfl⟩
set_option maxRecDepth 100000 in
theorem isVariable_o (w : World) : Calls Tryz.prog 80 #[.string ⟨#[63, 111, 116, 104, 101, 114]⟩] w fun e w' => e = .returned (.bool true) ∧ w = w' := by
  go_enter Tryz.func80, Tryz.ntmps80
  go_wp2_with go_in
  refine wp_loop_rounds 8 (rounds_intro ?_)
  go_wp2_with go_in
  iterate 4
    refine rounds_intro ?_
    go_wp2_with go_in
  go_ret
  exact ⟨rfl, rfl⟩
set_option maxRecDepth 100000 in
theorem isVariable_v (w : World) : Calls Tryz.prog 80 #[.string ⟨#[63, 118, 49]⟩] w fun e w' => e = .returned (.bool true) ∧ w = w' := by
  go_enter Tryz.func80, Tryz.ntmps80
  go_wp2_with go_in
  refine wp_loop_rounds 8 (rounds_intro ?_)
  go_wp2_with go_in
  iterate 1
    refine rounds_intro ?_
    go_wp2_with go_in
  go_ret
  exact ⟨rfl, rfl⟩
theorem isVariable_any {s : ByteArray} (hs : IsV s) (w : World) : Calls Tryz.prog 80 #[.string s] w fun e w' => e = .returned (.bool true) ∧ w = w' := by
  rcases hs with rfl | rfl | rfl
  · exact isVariable_x w
  · exact isVariable_o w
  · exact isVariable_v w
set_option maxRecDepth 100000 in
theorem prefix_any {s : ByteArray} (hs : IsV s) (w : World) : Calls Tryz.prog 115 #[.string s, .string ⟨#[63]⟩] w fun e w' => e = .returned (.bool true) ∧ w = w' := by
  rcases hs with rfl | rfl | rfl
  all_goals
    go_enter Tryz.func115, Tryz.ntmps115
    go_wp2_with go_in
    go_ret
    exact ⟨by kernel_rfl, rfl⟩
set_option maxRecDepth 100000 in
theorem prefix_nil (w : World) : Calls Tryz.prog 115 #[.string ⟨#[]⟩, .string ⟨#[63]⟩] w fun e w' => e = .returned (.bool false) ∧ w = w' := by
  go_enter Tryz.func115, Tryz.ntmps115
  go_wp2_with go_in
  go_ret
  exact ⟨rfl, rfl⟩

/-- The row of rules that the kind of the closed run's atoms reads. -/
def Rules (W : World) : Prop := W.cell? ⟨2, 3, none⟩ = some (.bool true) ∧ W.cell? ⟨2, 4, none⟩ = some (.bool false) ∧ W.cell? ⟨2, 5, none⟩ = some (.bool false)
theorem Rules.below {W W' : World} (h : Rules W) (hb : Below W.heap.size W W') : Rules W' := ⟨pw_cell_below hb h.1, pw_cell_below hb h.2.1, pw_cell_below hb h.2.2⟩
/-- The atom with a variable, as cells and as a value. -/
abbrev atomA (s : ByteArray) : Array Value := #[.int .i64 1, .string ⟨#[65]⟩, .string s, .string ⟨#[]⟩, .int .i64 0, .int .i64 0]
def AtomAt (W : World) (g : Nat) (s : ByteArray) : Prop := W.cell? ⟨g, 0, none⟩ = some (.int .i64 1) ∧ W.cell? ⟨g, 1, none⟩ = some (.string ⟨#[65]⟩) ∧ W.cell? ⟨g, 2, none⟩ = some (.string s) ∧ W.cell? ⟨g, 3, none⟩ = some (.string ⟨#[]⟩) ∧ W.cell? ⟨g, 4, none⟩ = some (.int .i64 0) ∧ W.cell? ⟨g, 5, none⟩ = some (.int .i64 0)
theorem AtomAt.below {W W' : World} {g : Nat} {s : ByteArray} (h : AtomAt W g s) (hb : Below W.heap.size W W') : AtomAt W' g s :=
  ⟨pw_cell_below hb h.1, pw_cell_below hb h.2.1, pw_cell_below hb h.2.2.1, pw_cell_below hb h.2.2.2.1, pw_cell_below hb h.2.2.2.2.1, pw_cell_below hb h.2.2.2.2.2⟩
theorem below1 (W : World) (o : Obj) : Below W.heap.size W (W.alloc o) := (Below.refl _ W).alloc (Nat.le_refl _) o
theorem cell_new (W : World) (cs : Array Value) (t : TypeId) (fr : Nat × Nat) (j : Nat) : (W.alloc (.cells cs t fr)).cell? ⟨W.heap.size, j, none⟩ = cs[j]? := cell_of_row _ _ j cs t fr (heap_alloc_new W _)
theorem cell_new2 (W : World) (o : Obj) (cs : Array Value) (t : TypeId) (j : Nat) : ((W.alloc o).alloc (.cells cs t)).cell? ⟨W.heap.size + 1, j, none⟩ = cs[j]? := by
  have := cell_new (W.alloc o) cs t (0, 0) j
  rwa [World.size_alloc] at this
theorem below2 (W : World) (o o' : Obj) : Below W.heap.size W ((W.alloc o).alloc o') := ((Below.refl _ W).alloc (Nat.le_refl _) o).alloc (by simp) o'
set_option maxRecDepth 100000 in
theorem termsOf_any (s : ByteArray) (w : World) (hR : Rules w) : Calls Tryz.prog 107 #[.agg (atomA s)] w fun e w' => ∃ g, e = .returned (.slice (some ⟨g, 0, none⟩) 1 1) ∧ w'.cell? ⟨g, 0, none⟩ = some (.string s) ∧ Below w.heap.size w w' := by
  obtain ⟨r3, r4, r5⟩ := hR.below (below1 w (.cells (atomA s) 32))
  go_enter Tryz.func107, Tryz.ntmps107
  go_wp2
  go_ret
  exact ⟨_, rfl, cell_new2 _ _ _ _ 0, below2 _ _ _⟩
set_option maxRecDepth 100000 in
theorem IndexFunc108 {s : ByteArray} (hs : IsV s) (g : Nat) (w : World) (h : w.cell? ⟨g, 0, none⟩ = some (.string s)) : Calls Tryz.prog 118 #[.slice (some ⟨g, 0, none⟩) 1 1, .func (.func 108) #[] #[]] w fun e w' => e = .returned (.int .i64 (-1)) ∧ w = w' := by
  go_enter Tryz.func118, Tryz.ntmps118
  go_wp2
  refine wp_loop_rounds 3 (rounds_intro ?_)
  go_wp2_with (first | (go_at_call 80; refine (isVariable_any hs _).mono ?_; rintro e w' ⟨rfl, rfl⟩) | go_in)
  refine rounds_intro ?_
  go_wp2
  go_ret
  exact ⟨rfl, rfl⟩
set_option maxRecDepth 100000 in
theorem ContainsFunc108 {s : ByteArray} (hs : IsV s) (g : Nat) (w : World) (h : w.cell? ⟨g, 0, none⟩ = some (.string s)) : Calls Tryz.prog 87 #[.slice (some ⟨g, 0, none⟩) 1 1, .func (.func 108) #[] #[]] w fun e w' => e = .returned (.bool false) ∧ w = w' := by
  go_enter Tryz.func87, Tryz.ntmps87
  go_wp2_with (go_at_call 118; refine (IndexFunc108 hs g _ h).mono ?_; rintro e w' ⟨rfl, rfl⟩)
  go_ret
  exact ⟨rfl, rfl⟩
set_option maxHeartbeats 1000000 in
set_option maxRecDepth 100000 in
theorem checkAtom_any {s : ByteArray} (hs : IsV s) (w : World) (hR : Rules w) : Calls Tryz.prog 79 #[.agg (atomA s)] w fun e w' => e = .returned (.int .i64 0) ∧ Below w.heap.size w w' := by
  obtain ⟨r3, r4, r5⟩ := hR.below (below1 w (.cells (atomA s) 32))
  have HB2 := Aside0.mk (below2 w (.cells (atomA s) 32) (.cells #[.bool true, .bool false, .bool false] 161))
  have HR2 := Aside0.mk (hR.below HB2.out)
  clear hR
  go_enter Tryz.func79, Tryz.ntmps79
  go_wp2_with (first
    | (go_at_call 78; go_in) | (go_at_call 106; go_in) | (go_at_call 30; refine (person_A _).mono ?_; rintro e w' ⟨rfl, rfl⟩)
    | (go_at_call 107; refine (termsOf_any s _ HR2.out).mono ?_; rintro e w1 ⟨g, rfl, hc, hb⟩; have HC := Aside0.mk hc; have HB3 := Aside0.mk (HB2.out.trans (hb.mono HB2.out.size)); clear hc hb)
    | (go_at_call 87; refine (ContainsFunc108 hs g _ HC.out).mono ?_; rintro e w' ⟨rfl, rfl⟩))
  go_ret
  exact ⟨rfl, HB3.out⟩
end Go.Proofs.YtfoojamabjpdpaaGreatDoor.Led
