import Derived.Test.YtfoojamabjpdpaaGreatDoorB
/- Closed runs: Variables, checkForm, query.Check. -/
namespace Go.Proofs.YtfoojamabjpdpaaGreatDoor.Led
open Go.RowKit Go.Proofs.YtfoojamabjpdpaaGreatDoorW.PrintWords Go.Proofs.YtfoojamabjpdpaaGreatDoorW.PrintLast Go.Proofs.YtfoojamabjpdpaaGreatDoorW.PrintMore
attribute [local go_sem] max2_int min2_int max_two min_two max_three min_three max_four min_four
attribute [local go_sem] ba_get ba_size List.getElem_toArray List.getElem_cons_zero List.getElem_cons_succ List.size_toArray List.length_cons List.length_nil
set_option linter.unusedVariables false
set_option linter.unusedSimpArgs false
set_option maxRecDepth 100000 in
theorem insertion1 (A : Option Addr) (c : Nat) (w : World) : Calls Tryz.prog 155 #[.slice A 1 c, .int .i64 0, .int .i64 1] w fun e w' => e = .returned (.tuple #[]) ∧ w = w' := by
  go_enter Tryz.func155, Tryz.ntmps155
  go_wp2
  refine wp_loop_rounds 3 (rounds_intro ?_)
  go_wp2
  go_end0
  exact ⟨rfl, rfl⟩
set_option maxRecDepth 100000 in
theorem Len1 (w : World) : Calls Tryz.prog 140 #[.int .u64 1] w fun e w' => e = .returned (.int .i64 1) ∧ w = w' := by
  go_enter Tryz.func140, Tryz.ntmps140
  go_wp2_with go_in
  go_ret
  exact ⟨rfl, rfl⟩
set_option maxRecDepth 100000 in
theorem pdq1 (A : Option Addr) (c : Nat) (w : World) : Calls Tryz.prog 139 #[.slice A 1 c, .int .i64 0, .int .i64 1, .int .i64 1] w fun e w' => e = .returned (.tuple #[]) ∧ w = w' := by
  go_enter Tryz.func139, Tryz.ntmps139
  go_wp2
  refine wp_loop_rounds 3 (rounds_intro ?_)
  go_wp2_with (go_at_call 155; refine (insertion1 _ _ _).mono ?_; rintro e w' ⟨rfl, rfl⟩)
  exact bodyPost_ret (v := .tuple #[]) (by simp [results, Tryz.results139, go_sem]) rfl ⟨rfl, rfl⟩
set_option maxRecDepth 100000 in
theorem Sort1 (A : Option Addr) (c : Nat) (w : World) : Calls Tryz.prog 116 #[.slice A 1 c] w fun e w' => e = .returned (.tuple #[]) ∧ w = w' := by
  go_enter Tryz.func116, Tryz.ntmps116
  go_wp2_with (first | (go_at_call 140; refine (Len1 _).mono ?_; rintro e w' ⟨rfl, rfl⟩) | (go_at_call 139; refine (pdq1 _ _ _).mono ?_; rintro e w' ⟨rfl, rfl⟩))
  go_end0
  exact ⟨rfl, rfl⟩
set_option maxRecDepth 100000 in
theorem Compact1 (A : Option Addr) (c : Nat) (w : World) : Calls Tryz.prog 117 #[.slice A 1 c] w fun e w' => e = .returned (.slice A 1 c) ∧ w = w' := by
  go_enter Tryz.func117, Tryz.ntmps117
  go_wp2
  go_ret
  exact ⟨rfl, rfl⟩
theorem cell_new3 (W : World) (o o' : Obj) (cs : Array Value) (t : TypeId) (j : Nat) : (((W.alloc o).alloc o').alloc (.cells cs t)).cell? ⟨W.heap.size + 1 + 1, j, none⟩ = cs[j]? := by
  have := cell_new ((W.alloc o).alloc o') cs t (0, 0) j
  rwa [World.size_alloc, World.size_alloc] at this
theorem below3 (W : World) (o o' o'' : Obj) : Below W.heap.size W (((W.alloc o).alloc o').alloc o'') := (below2 W o o').alloc (by simp; omega) o''
theorem info9 : (Tryz.prog.info? 9).map (fun i => (i.zero, i.size, i.bytes)) = some (some (.string ⟨#[]⟩), 1, 16) := by kernel_rfl
/-- A text laid behind none. -/
theorem app_str (W : World) (s : ByteArray) : ∃ g cap W', (Builtin.append_ #[64, 64] 64 #[.slice none 0 0, .slice (some ⟨W.heap.size, 0, none⟩) 1 1]).run Tryz.prog (W.alloc (.cells #[.string s] 9)) = .ok (.slice (some ⟨g, 0, none⟩) 1 cap) W' ∧ W'.cell? ⟨g, 0, none⟩ = some (.string s) ∧ Below W.heap.size W W' := by
  obtain ⟨g, cap, cur, W', hr, hg, htk, hc, hle, hb⟩ := append_nil (W := W.alloc (.cells #[.string s] 9)) (t := 64) (e := 9) Tryz.underlying64 info9 rfl (by decide) ⟨W.heap.size, 0, none⟩ 1 1 [.string s] (by decide) rfl
    (fun j u hu => by
      match j, hu with
      | 0, hu => cases hu; exact cell_new W _ 9 (0, 0) 0
      | j + 1, hu => cases hu) (by intro u hu; obtain rfl := List.mem_singleton.1 hu; rfl) (by simp only [maxLen]; omega) (by decide)
  refine ⟨g, cap, W', hr, ?_, (below1 W _).trans (hb.mono (by simp))⟩
  rw [cell_of_row W' g 0 cur 9 (0, 0) hg, ← Array.getElem?_toList]
  have h1 : (cur.toList.take 1)[0]? = ([Value.string s] : List Value)[0]? := by rw [show (1 : Nat) = 1 * 1 from rfl, htk]
  rwa [List.getElem?_take_of_lt (by omega)] at h1
set_option maxHeartbeats 8000000 in
set_option maxRecDepth 100000 in
theorem Variables1 {s : ByteArray} (hs : IsV s) (g c : Nat) (w : World) (h : AtomAt w g s) : Calls Tryz.prog 85 #[.agg #[.slice (some ⟨g, 0, none⟩) 1 c]] w fun e w' => ∃ g' c', e = .returned (.slice (some ⟨g', 0, none⟩) 1 c') ∧ w'.cell? ⟨g', 0, none⟩ = some (.string s) ∧ Below w.heap.size w w' := by
  obtain ⟨a0, a1, a2, a3, a4, a5⟩ := h.below (below1 w (.cells #[.slice (some ⟨g, 0, none⟩) 1 c] 35))
  go_enter Tryz.func85, Tryz.ntmps85
  go_wp2
  refine wp_loop_rounds 3 (rounds_intro ?_)
  go_wp2
  refine wp_loop_rounds 4 (rounds_intro ?_)
  obtain ⟨g1, c1, W1, hrun, hx1, hb1⟩ := app_str (((w.alloc (.cells #[.slice (some ⟨g, 0, none⟩) 1 c] 35)).alloc (.cells (atomA s) 32)).alloc (.cells #[.string s, .string ⟨#[]⟩] 9)) s
  have y1 : W1.cell? ⟨w.heap.size + 1 + 1, 1, none⟩ = some (.string ⟨#[]⟩) := pw_cell_below hb1 (cell_new3 w _ _ #[.string s, .string ⟨#[]⟩] 9 1)
  have HB := Aside0.mk ((below3 w _ _ _).trans (hb1.mono (below3 w _ _ _).size))
  simp only [World.size_alloc] at hrun
  have HX := Aside0.mk hx1
  clear hb1 hx1
  go_wp2_with (first
    | (go_at_call 115; refine (prefix_any hs _).mono ?_; rintro e w' ⟨rfl, rfl⟩)
    | (at_builtin; refine wpList_append_run (o := ⟨some 29, _, _, _, _, _⟩) rfl (.tmp 26) (.tmp 28) 64 64 rfl rfl _ _ _ rfl rfl hrun ?_))
  clear hrun a0 a1 a2 a3 a4 a5
  refine rounds_intro ?_
  go_wp2_with (go_at_call 115; refine (prefix_nil _).mono ?_; rintro e w' ⟨rfl, rfl⟩)
  refine rounds_intro ?_
  go_wp2
  refine rounds_intro ?_
  go_wp2_with (first | (go_at_call 116; refine (Sort1 _ _ _).mono ?_; rintro e w' ⟨rfl, rfl⟩) | (go_at_call 117; refine (Compact1 _ _ _).mono ?_; rintro e w' ⟨rfl, rfl⟩))
  go_ret
  exact ⟨g1, c1, rfl, HX.out, HB.out⟩
end Go.Proofs.YtfoojamabjpdpaaGreatDoor.Led
