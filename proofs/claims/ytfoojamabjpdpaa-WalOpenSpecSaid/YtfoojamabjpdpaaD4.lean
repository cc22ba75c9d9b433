import Derived.Test.YtfoojamabjpdpaaD3
/- The closed run: EqualFunc, Clone of rows, room, Write. -/
namespace Go.Proofs.Ytfoojamabjpdpaa.Wal
open Go.RowKit Go.Proofs.YtfoojamabjpdpaaW.PrintWords Go.Proofs.YtfoojamabjpdpaaW.PrintLast Go.Proofs.YtfoojamabjpdpaaW.PrintMore Go.Proofs.Ytfoojamabjpdpaa.PWalOpenSpec
attribute [local go_sem] max2_int min2_int max_two min_two max_three min_three max_four min_four
set_option linter.unusedVariables false
set_option linter.unusedSimpArgs false

theorem EqualFunc0 (A : Option Addr) (c : Nat) (B : Option Addr) (d : Nat) (w : World) : Calls Try.prog 27 #[.slice A 0 c, .slice B 0 d, .func (.func 28) #[] #[]] w fun e w' => e = .returned (.bool true) ∧ w = w' := by
  go_enter Try.func27, Try.ntmps27
  go_wp2
  go_loop [17] (fun v => v = .int .i64 0) (fun _ => 0)
  case atStart => rfl
  case round =>
    subst hrel
    go_wp2
    go_ret
    exact ⟨rfl, rfl⟩
/-- Two rows of their own. -/
def Own2 (w : World) (base : Nat) (v x0 x1 : Value) : Prop := w.ownsRow base 25 1 v 2 [x0, x1]
set_option maxRecDepth 100000 in
theorem Clone38 (ad : Addr) (c : Nat) (x0 x1 : Value) (w : World) (h0 : w.cell? (ad.add 0) = some x0) (h1 : w.cell? (ad.add 1) = some x1) (k0 : x0.oneCell' = true) (k1 : x1.oneCell' = true) :
    Calls Try.prog 38 #[.slice (some ad) 2 c] w fun e w' => ∃ A' c', e = .returned (.slice A' 2 c') ∧ Own2 w' w.heap.size (.slice A' 2 c') x0 x1 ∧ Below w.heap.size w w' := by
  have hb : Below w.heap.size w (w.alloc (.cells #[] 25)) := (Below.refl _ w).alloc (Nat.le_refl _) _
  have ho0 : (w.alloc (.cells #[] 25)).ownsRow w.heap.size 25 1 (.slice (some ⟨w.heap.size, 0, none⟩) 0 0) 0 [] := ⟨rfl, .inr ⟨w.heap.size, 0, #[], rfl, Nat.le_refl _, heap_alloc_new w _, by simp, by simp [maxLen], rfl, rfl⟩⟩
  obtain ⟨i, hi, hzz⟩ := Option.map_eq_some_iff.1 info25
  simp only [Prod.mk.injEq] at hzz
  obtain ⟨hz0, hz1, hz2⟩ := hzz
  obtain ⟨v', W', hrun, h2, h3, _, _⟩ := run_append_own_at (P := Try.prog) (w.alloc (.cells #[] 25)) w.heap.size 22 22 25 i (.slice none 0 0) 1 24 Try.underlying22 hi hz0 hz1 hz2 rfl (by omega) _ 0 [] ho0 ad 2 c [x0, x1] rfl
    (by
      intro j u hu
      match j, hu with
      | 0, hu => cases hu; exact pw_cell_below hb h0
      | 1, hu => cases hu; exact pw_cell_below hb h1
      | _ + 2, hu => cases hu) (by intro u hu; simp at hu; rcases hu with rfl | rfl <;> assumption) (by simp only [maxLen]; omega) (by omega) (by simp)
  have HB := Aside0.mk (hb.grown h3 hb.size (fun j e => own_base ho0 j e))
  have HO := Aside0.mk h2
  have hnil := nil22 ad 2 c
  have hv : ∃ A' c', v' = .slice A' 2 c' := by
    rcases h2.2 with ⟨_, hn⟩ | ⟨g, cap, cur, rfl, _⟩
    · cases hn
    · exact ⟨_, _, rfl⟩
  obtain ⟨A', c', rfl⟩ := hv
  clear h0 h1 hb ho0 h2 h3
  go_enter Try.func38, Try.ntmps38
  go_wp2_with (at_builtin; refine wpList_append_run rfl (.tmp 5) (.tmp 6) 22 22 rfl rfl _ _ _ rfl rfl hrun ?_)
  go_ret
  exact ⟨A', c', rfl, HO.out, HB.out⟩
theorem room_any (g : Nat) (v : Value) (t : Int) (s : Bool) (w : World) (h : Blk w g 69 #[v, .int .i64 (-1), .int .i64 t, .bool s]) : Calls Try.prog 39 #[.pointer (some ⟨g, 0, none⟩)] w fun e w' => e = .returned (.int .i64 128) ∧ w = w' := by
  obtain ⟨z0, z1, z2, z3⟩ := cells4 h
  go_enter Try.func39, Try.ntmps39
  go_wp2
  go_ret
  exact ⟨rfl, rfl⟩
theorem copy_own {W : World} {base : Nat} {v : Value} {s b : List Int} {A : Option Addr} {c : Nat} (h : OwnB W base v s) (hR : Rd W A b) (hl : b.length = s.length) (hp : 0 < s.length) :
    ∃ W', (Builtin.copy_ #[25, 25] 3 #[v, .slice A b.length c]).run Try.prog W = .ok (.int .i64 b.length) W' ∧ OwnB W' base v b ∧ W.grownBy W' v.ownBlock := by
  rcases h.2 with ⟨_, hn⟩ | ⟨g, cap, cur, rfl, hle, hg, hnc, hcm, hsz, htk⟩
  · omega
  obtain ⟨ad, rfl, hc⟩ := hR.cells (by omega)
  have hr := run_copy_row (P := Try.prog) W 25 25 3 5 g 0 s.length cap ad b.length c cur 5 (b.map (Value.int .u8)) Try.underlying25 (by kernel_rfl) hg (by rw [List.length_map, hl]; exact (Nat.min_self _).symm)
    hc (by rw [List.length_map]; omega) (by intro v hv; obtain ⟨x, _, rfl⟩ := List.mem_map.1 hv; rfl)
  refine ⟨_, by rw [hr, List.length_map]; rfl, ⟨by simp, .inr ⟨g, cap, _, ?_, hle, setRow_heap W g _ _ 5 _ hg, by omega, hcm, ?_, ?_⟩⟩, ⟨rfl, rfl, rfl, by simp, fun k _ hk => setRow_other W g k _ (fun e => hk (by simp [e, Value.ownBlock]))⟩⟩
  · rw [hl]
  · simp
    omega
  · simp
end Go.Proofs.Ytfoojamabjpdpaa.Wal
