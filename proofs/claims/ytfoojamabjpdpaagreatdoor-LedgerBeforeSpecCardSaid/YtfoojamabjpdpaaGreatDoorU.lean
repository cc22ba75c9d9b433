import Derived.Recover
import Derived.WalkSmall
import Derived.Test.YtfoojamabjpdpaaGreatDoorR
/- Closed runs: Decode of no bytes. -/
namespace Go.Proofs.YtfoojamabjpdpaaGreatDoor.Led
open Go.RowKit Go.Proofs.YtfoojamabjpdpaaGreatDoorW.PrintWords Go.Proofs.YtfoojamabjpdpaaGreatDoorW.PrintLast Go.Proofs.YtfoojamabjpdpaaGreatDoorW.PrintMore
attribute [local go_sem] max2_int min2_int max_two min_two max_three min_three max_four min_four
attribute [local go_sem] ba_get ba_size List.getElem_toArray List.getElem_cons_zero List.getElem_cons_succ List.size_toArray List.length_cons List.length_nil
set_option linter.unusedVariables false
set_option linter.unusedSimpArgs false
set_option maxRecDepth 100000 in
theorem take4 (sb : Nat) (w : World) (h : w.cell? ⟨sb, 0, none⟩ = some (.slice none 0 0)) : Calls Tryz.prog 24 #[.pointer (some ⟨sb, 0, none⟩), .int .i64 4] w fun e w' => e = .panicked [{ v := .iface 57 (.agg #[]), recovered := false }] ∧ w = w' := by
  go_enter Tryz.func24, Tryz.ntmps24
  go_wp2
  exact ⟨rfl, rfl, rfl⟩
set_option maxRecDepth 100000 in
theorem number4 (sb : Nat) (w : World) (h : w.cell? ⟨sb, 0, none⟩ = some (.slice none 0 0)) : Calls Tryz.prog 25 #[.pointer (some ⟨sb, 0, none⟩), .int .i64 4] w fun e w' => e = .panicked [{ v := .iface 57 (.agg #[]), recovered := false }] ∧ w = w' := by
  go_enter Tryz.func25, Tryz.ntmps25
  go_wp2_with (go_at_call 24; refine (take4 sb _ h).mono ?_; rintro e w' ⟨rfl, rfl⟩)
  exact ⟨rfl, rfl, rfl⟩
theorem Blk.ne_ {w : World} {g g' : Nat} {t t' : TypeId} {cs cs' : Array Value} (h : Blk w g t cs) (h' : Blk w g' t' cs') (hne : t ≠ t') : g ≠ g' := by
  rintro rfl
  have e := (show w.heap[g]? = _ from h).symm.trans h'
  injection e with e
  injection e with _ e2
  exact hne e2
abbrev pan (r : Bool) : PanicEntry := { v := .iface 57 (.agg #[]), recovered := r }
set_option maxHeartbeats 4000000 in
set_option maxRecDepth 100000 in
theorem catch23 (a b c d : Nat) (w : World) (ha : Blk w a 9 #[.string ⟨#[]⟩]) (hb : Blk w b 3 #[.int .i64 0]) (hc : Blk w c 39 #[.int .i64 0, .slice none 0 0]) (hd : Blk w d 28 #[.int .i64 0]) :
    CallsD Tryz.prog 23 #[.pointer (some ⟨a, 0, none⟩), .pointer (some ⟨b, 0, none⟩), .pointer (some ⟨c, 0, none⟩), .pointer (some ⟨d, 0, none⟩)] (.panicking [pan false]) w fun e u' w' => e = .returned (.tuple #[]) ∧ u' = .panicking [pan true] ∧ w' = (((((w.alloc (.cells #[] 57)).setCell ⟨a, 0, none⟩ (.string ⟨#[]⟩)).setCell ⟨b, 0, none⟩ (.int .i64 0)).setCell ⟨c, 0, none⟩ (.int .i64 0)).setCell ⟨c, 1, none⟩ (.slice none 0 0)).setCell ⟨d, 0, none⟩ (.int .i64 380) := by
  have h1 := below1 w (.cells #[] 57)
  have nab : a ≠ b := Blk.ne_ ha hb (by decide)
  have nac : a ≠ c := Blk.ne_ ha hc (by decide)
  have nad : a ≠ d := Blk.ne_ ha hd (by decide)
  have nbc : b ≠ c := Blk.ne_ hb hc (by decide)
  have nbd : b ≠ d := Blk.ne_ hb hd (by decide)
  have ncd : c ≠ d := Blk.ne_ hc hd (by decide)
  have A1 := ha.below h1 ha.lt
  have B1 := (hb.below h1 hb.lt).far (p := ⟨a, 0, none⟩) (Ne.symm nab) (.string ⟨#[]⟩)
  have C1 := ((hc.below h1 hc.lt).far (p := ⟨a, 0, none⟩) (Ne.symm nac) (.string ⟨#[]⟩)).far (p := ⟨b, 0, none⟩) (Ne.symm nbc) (.int .i64 0)
  have C2 := C1.set_ 0 (.int .i64 0)
  have D1 := ((((hd.below h1 hd.lt).far (p := ⟨a, 0, none⟩) (Ne.symm nad) (.string ⟨#[]⟩)).far (p := ⟨b, 0, none⟩) (Ne.symm nbd) (.int .i64 0)).far (p := ⟨c, 0, none⟩) (Ne.symm ncd) (.int .i64 0)).far (p := ⟨c, 1, none⟩) (Ne.symm ncd) (.slice none 0 0)
  have a0 := A1.cell 0
  have af := A1.frozen 0
  have b0 := B1.cell 0
  have bf := B1.frozen 0
  have c0 := C1.cell 0
  have c1 := C1.cell 1
  have cf0 := C1.frozen 0
  have cf1 := C1.frozen 1
  have e0 := C2.cell 0
  have e1 := C2.cell 1
  have ef0 := C2.frozen 0
  have ef1 := C2.frozen 1
  have d0 := D1.cell 0
  have df := D1.frozen 0
  clear ha hb hc hd h1 nab nac nad nbc nbd ncd A1 B1 C1 C2 D1
  refine callsD_of_wpS Tryz.func23 rfl fun c₀ cs hu => ?_
  apply wpS_seq
  apply wpS_region
  simp [wpOpsS, go_sem, recoverD, hu, Tryz.ntmps23, Exit.thenS]
  refine wpS_of_wp ?_
  have hta : ∀ W : World, (Instr.typeAssert (.iface 57 (.agg #[])) 20 57 true).run Tryz.prog W = .ok (.tuple #[.agg #[], .bool true]) W := fun W => by rfl
  simp only [Array.replicate_succ, Array.replicate_zero, List.push_toArray, List.append_toArray, List.nil_append, List.cons_append, List.setIfInBounds_toArray, List.set_cons_zero, List.set_cons_succ]
  go_wp2
  exact ⟨rfl, _, rfl, .tuple #[], by simp [results, Tryz.results23, go_sem], rfl, rfl, rfl⟩
set_option maxHeartbeats 4000000 in
set_option maxRecDepth 100000 in
theorem Decode0 (w : World) : Calls Tryz.prog 10 #[.slice none 0 0] w fun e w' => e = .returned (.tuple #[.string ⟨#[]⟩, .int .i64 0, .agg #[.int .i64 0, .slice none 0 0], .int .i64 380]) ∧ Below w.heap.size w w' := by
  have hmf : ∀ (fn : Fn) (first cap : Array Value) (w : World), (Instr.makeFunc fn first cap).run Tryz.prog w = .ok (.func fn first cap) w := fun _ _ _ _ => rfl
  go_enter_defers Tryz.func10, Tryz.ntmps10
  go_wp2_with fail
  go_at_call 25
  have hs : (((((w.alloc (.cells #[.string ⟨#[]⟩] 9)).alloc (.cells #[.int .i64 0] 3)).alloc (.cells #[.int .i64 0, .slice none 0 0] 39)).alloc (.cells #[.int .i64 0] 28)).alloc (.cells #[.slice none 0 0] 61)).cell? ⟨w.heap.size + 1 + 1 + 1 + 1, 0, none⟩ = some (.slice none 0 0) := by
    rw [cell_of_row _ _ 0 _ _ _ (new_at _ _ _ (by simp))]
    rfl
  refine (number4 _ _ hs).mono ?_
  rintro e w1 ⟨rfl, rfl⟩
  have A : Blk (((((w.alloc (.cells #[.string ⟨#[]⟩] 9)).alloc (.cells #[.int .i64 0] 3)).alloc (.cells #[.int .i64 0, .slice none 0 0] 39)).alloc (.cells #[.int .i64 0] 28)).alloc (.cells #[.slice none 0 0] 61)) w.heap.size 9 #[.string ⟨#[]⟩] := (heap_alloc_old _ _ (by simp <;> omega)).trans ((heap_alloc_old _ _ (by simp <;> omega)).trans ((heap_alloc_old _ _ (by simp <;> omega)).trans ((heap_alloc_old _ _ (by simp)).trans (heap_alloc_new w _))))
  have B : Blk (((((w.alloc (.cells #[.string ⟨#[]⟩] 9)).alloc (.cells #[.int .i64 0] 3)).alloc (.cells #[.int .i64 0, .slice none 0 0] 39)).alloc (.cells #[.int .i64 0] 28)).alloc (.cells #[.slice none 0 0] 61)) (w.heap.size + 1) 3 #[.int .i64 0] := (heap_alloc_old _ _ (by simp <;> omega)).trans ((heap_alloc_old _ _ (by simp <;> omega)).trans ((heap_alloc_old _ _ (by simp)).trans (new_at _ _ _ (by simp))))
  have C : Blk (((((w.alloc (.cells #[.string ⟨#[]⟩] 9)).alloc (.cells #[.int .i64 0] 3)).alloc (.cells #[.int .i64 0, .slice none 0 0] 39)).alloc (.cells #[.int .i64 0] 28)).alloc (.cells #[.slice none 0 0] 61)) (w.heap.size + 1 + 1) 39 #[.int .i64 0, .slice none 0 0] := (heap_alloc_old _ _ (by simp <;> omega)).trans ((heap_alloc_old _ _ (by simp)).trans (new_at _ _ _ (by simp)))
  have D : Blk (((((w.alloc (.cells #[.string ⟨#[]⟩] 9)).alloc (.cells #[.int .i64 0] 3)).alloc (.cells #[.int .i64 0, .slice none 0 0] 39)).alloc (.cells #[.int .i64 0] 28)).alloc (.cells #[.slice none 0 0] 61)) (w.heap.size + 1 + 1 + 1) 28 #[.int .i64 0] := (heap_alloc_old _ _ (by simp)).trans (new_at _ _ _ (by simp))
  have hb : Below w.heap.size w (((((w.alloc (.cells #[.string ⟨#[]⟩] 9)).alloc (.cells #[.int .i64 0] 3)).alloc (.cells #[.int .i64 0, .slice none 0 0] 39)).alloc (.cells #[.int .i64 0] 28)).alloc (.cells #[.slice none 0 0] 61)) := ((((below1 w _).alloc (by simp) _).alloc (by simp <;> omega) _).alloc (by simp <;> omega) _).alloc (by simp <;> omega) _
  generalize (((((w.alloc (.cells #[.string ⟨#[]⟩] 9)).alloc (.cells #[.int .i64 0] 3)).alloc (.cells #[.int .i64 0, .slice none 0 0] 39)).alloc (.cells #[.int .i64 0] 28)).alloc (.cells #[.slice none 0 0] 61)) = W at *
  go_wp2
  refine leaves_cons (f := 23) (args := #[.pointer (some ⟨w.heap.size, 0, none⟩), .pointer (some ⟨w.heap.size + 1, 0, none⟩), .pointer (some ⟨w.heap.size + 1 + 1, 0, none⟩), .pointer (some ⟨w.heap.size + 1 + 1 + 1, 0, none⟩)]) (by simp) (by simp [go_sem]) ?_
  refine (catch23 _ _ _ _ _ A B C D).mono ?_
  rintro e u' w'' ⟨rfl, rfl, rfl⟩
  have h1 := below1 W (.cells #[] 57)
  have A9 := (((((A.below h1 A.lt).set_ 0 (.string ⟨#[]⟩)).far (p := ⟨w.heap.size + 1, 0, none⟩) (by simp <;> omega) (.int .i64 0)).far (p := ⟨w.heap.size + 1 + 1, 0, none⟩) (by simp <;> omega) (.int .i64 0)).far (p := ⟨w.heap.size + 1 + 1, 1, none⟩) (by simp <;> omega) (.slice none 0 0)).far (p := ⟨w.heap.size + 1 + 1 + 1, 0, none⟩) (by simp <;> omega) (.int .i64 380)
  have B9 := (((((B.below h1 B.lt).far (p := ⟨w.heap.size, 0, none⟩) (by simp <;> omega) (.string ⟨#[]⟩)).set_ 0 (.int .i64 0)).far (p := ⟨w.heap.size + 1 + 1, 0, none⟩) (by simp <;> omega) (.int .i64 0)).far (p := ⟨w.heap.size + 1 + 1, 1, none⟩) (by simp <;> omega) (.slice none 0 0)).far (p := ⟨w.heap.size + 1 + 1 + 1, 0, none⟩) (by simp <;> omega) (.int .i64 380)
  have C9 := (((((C.below h1 C.lt).far (p := ⟨w.heap.size, 0, none⟩) (by simp <;> omega) (.string ⟨#[]⟩)).far (p := ⟨w.heap.size + 1, 0, none⟩) (by simp <;> omega) (.int .i64 0)).set_ 0 (.int .i64 0)).set_ 1 (.slice none 0 0)).far (p := ⟨w.heap.size + 1 + 1 + 1, 0, none⟩) (by simp <;> omega) (.int .i64 380)
  have D9 := (((((D.below h1 D.lt).far (p := ⟨w.heap.size, 0, none⟩) (by simp <;> omega) (.string ⟨#[]⟩)).far (p := ⟨w.heap.size + 1, 0, none⟩) (by simp <;> omega) (.int .i64 0)).far (p := ⟨w.heap.size + 1 + 1, 0, none⟩) (by simp <;> omega) (.int .i64 0)).far (p := ⟨w.heap.size + 1 + 1, 1, none⟩) (by simp <;> omega) (.slice none 0 0)).set_ 0 (.int .i64 380)
  have HE := Aside0.mk ((((((hb.trans (h1.mono hb.size)).setCell (p := ⟨w.heap.size, 0, none⟩) (Nat.le_refl _) (.string ⟨#[]⟩)).setCell (p := ⟨w.heap.size + 1, 0, none⟩) (by simp <;> omega) (.int .i64 0)).setCell (p := ⟨w.heap.size + 1 + 1, 0, none⟩) (by simp <;> omega) (.int .i64 0)).setCell (p := ⟨w.heap.size + 1 + 1, 1, none⟩) (by simp <;> omega) (.slice none 0 0)).setCell (p := ⟨w.heap.size + 1 + 1 + 1, 0, none⟩) (by simp <;> omega) (.int .i64 380))
  have x0 := A9.cell 0
  have y0 := B9.cell 0
  have z0 := C9.cell 0
  have z1 := C9.cell 1
  have t0 := D9.cell 0
  clear A B C D h1 A9 B9 C9 D9 hb hs
  simp [Leaves, settle, results, Tryz.results10, go_sem, x0, y0, z0, z1, t0]
  exact HE.out
end Go.Proofs.YtfoojamabjpdpaaGreatDoor.Led
