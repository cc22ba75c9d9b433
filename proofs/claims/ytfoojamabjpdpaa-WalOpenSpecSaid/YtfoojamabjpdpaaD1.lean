import Derived.Test.YtfoojamabjpdpaaC3
/- The closed run: sectors, used, Check, Room. -/
namespace Go.Proofs.Ytfoojamabjpdpaa.Wal
open Go.RowKit Go.Proofs.YtfoojamabjpdpaaW.PrintWords Go.Proofs.YtfoojamabjpdpaaW.PrintLast Go.Proofs.YtfoojamabjpdpaaW.PrintMore Go.Proofs.Ytfoojamabjpdpaa.PWalOpenSpec
attribute [local go_sem] max2_int min2_int max_two min_two max_three min_three max_four min_four
set_option linter.unusedVariables false
set_option linter.unusedSimpArgs false

theorem sectors2 (A : Option Addr) (c : Nat) (w : World) : Calls Try.prog 22 #[.slice A 2 c] w fun e w' => e = .returned (.int .i64 1) ∧ w = w' := by
  go_enter Try.func22, Try.ntmps22
  go_wp2
  go_ret
  exact ⟨rfl, rfl⟩
theorem sectors113 (A : Option Addr) (c : Nat) (w : World) : Calls Try.prog 22 #[.slice A 113 c] w fun e w' => e = .returned (.int .i64 2) ∧ w = w' := by
  go_enter Try.func22, Try.ntmps22
  go_wp2
  go_ret
  exact ⟨rfl, rfl⟩
/-- No record, or one of two bytes. -/
def Few1 (L : List (List Int)) : Prop := L = [] ∨ ∃ s, L = [s] ∧ s.length = 2
theorem Few1.le {L : List (List Int)} (h : Few1 L) : L.length ≤ 1 := by
  rcases h with rfl | ⟨s, rfl, _⟩ <;> simp
theorem Few1.at0 {L : List (List Int)} (h : Few1 L) (k : Nat) (hk : k < L.length) : (gl L k).length = 2 := by
  rcases h with rfl | ⟨s, rfl, hs⟩
  · simp at hk
  · have : k = 0 := by simp at hk; omega
    subst this
    exact hs
set_option maxRecDepth 100000 in
theorem used_few (L : List (List Int)) (A : Option Addr) (c : Nat) (w : World) (h : Ls w A L) (hL : Few1 L) : Calls Try.prog 23 #[.slice A L.length c] w fun e w' => e = .returned (.int .i64 L.length) ∧ w = w' := by
  have HR := Aside0.mk h
  have HF := Aside0.mk hL
  have hle := hL.le
  clear h hL
  go_enter Try.func23, Try.ntmps23
  go_wp2
  go_loop [2, 4, 7] (fun v2 _ v7 => ∃ k : Nat, k ≤ L.length ∧ v7 = .int .i64 k ∧ v2 = .int .i64 k) (fun _ _ v7 => L.length - (intOf v7).toNat)
  case atStart => exact ⟨0, Nat.zero_le _, rfl, rfl⟩
  case round =>
    obtain ⟨k, hk, rfl, rfl⟩ := hrel
    by_cases hlt : k < L.length
    · obtain ⟨ad, B, cb, e, hx, _, _⟩ := HR.out.at_ k hlt
      cases e
      rw [HF.out.at0 k hlt] at hx
      go_wp2_with (go_at_call 22; refine (sectors2 _ _ _).mono ?_; rintro e w' ⟨rfl, rfl⟩)
      go_round
      case rel => exact ⟨k + 1, by omega, by go_num, by go_num⟩
      case measure => simp [intOf]; omega
    · obtain rfl : k = L.length := by omega
      go_wp2
      go_ret
      exact ⟨rfl, rfl⟩
set_option maxRecDepth 100000 in
theorem IndexFunc37 (L : List (List Int)) (A : Option Addr) (c : Nat) (w : World) (hr : Ls w A L) (hL : Few1 L) :
    Calls Try.prog 41 #[.slice A L.length c, .func (.func 37) #[] #[]] w fun e w' => e = .returned (.int .i64 (-1)) ∧ w = w' := by
  have HR := Aside0.mk hr
  have HF := Aside0.mk hL
  have hle := hL.le
  clear hr hL
  go_enter Try.func41, Try.ntmps41
  go_wp2
  go_loop [4, 5, 8] (fun _ _ v8 => ∃ k : Nat, k ≤ L.length ∧ v8 = .int .i64 k) (fun _ _ v8 => L.length - (intOf v8).toNat)
  case atStart => exact ⟨0, Nat.zero_le _, rfl⟩
  case round =>
    obtain ⟨k, hk, rfl⟩ := hrel
    by_cases hlt : k < L.length
    · obtain ⟨ad, B, cb, e, hx, _, _⟩ := HR.out.at_ k hlt
      cases e
      rw [HF.out.at0 k hlt] at hx
      go_wp2
      go_round
      case rel => exact ⟨k + 1, by omega, by go_num⟩
      case measure => simp [intOf]; omega
    · go_wp2
      go_ret
      exact ⟨rfl, rfl⟩
set_option maxRecDepth 100000 in
theorem ContainsFunc37 (L : List (List Int)) (A : Option Addr) (c : Nat) (w : World) (hr : Ls w A L) (hL : Few1 L) :
    Calls Try.prog 32 #[.slice A L.length c, .func (.func 37) #[] #[]] w fun e w' => e = .returned (.bool false) ∧ w = w' := by
  have HR := Aside0.mk hr
  have HF := Aside0.mk hL
  clear hr hL
  go_enter Try.func32, Try.ntmps32
  go_wp2_with (go_at_call 41; refine (IndexFunc37 L A c _ HR.out HF.out).mono ?_; rintro e w' ⟨rfl, rfl⟩)
  go_ret
  exact ⟨rfl, rfl⟩
set_option maxHeartbeats 2000000 in
set_option maxRecDepth 100000 in
theorem wCheck_few (L : List (List Int)) (A : Option Addr) (c : Nat) (w : World) (hr : Ls w A L) (hL : Few1 L) :
    Calls Try.prog 21 #[.agg #[.int .i64 0, .int .i64 1, .slice A L.length c, .int .i64 0]] w fun e w' => e = .returned (.int .i64 0) ∧ Below w.heap.size w w' := by
  have hle := hL.le
  have hb : Below w.heap.size w (w.alloc (.cells #[.int .i64 0, .int .i64 1, .slice A L.length c, .int .i64 0] 29)) := (Below.refl _ w).alloc (Nat.le_refl _) _
  have C1 : Aside0 (∀ n, Calls Try.prog 23 #[.slice A L.length c] ((w.alloc (.cells #[.int .i64 0, .int .i64 1, .slice A L.length c, .int .i64 0] 29)).drewN n) fun e w' => e = .returned (.int .i64 L.length) ∧ (w.alloc (.cells #[.int .i64 0, .int .i64 1, .slice A L.length c, .int .i64 0] 29)).drewN n = w') :=
    ⟨fun n => used_few L A c _ (Kd.C_below hr (pw_below_drewN hb n)) hL⟩
  have C2 : Aside0 (∀ n, Calls Try.prog 32 #[.slice A L.length c, .func (.func 37) #[] #[]] ((w.alloc (.cells #[.int .i64 0, .int .i64 1, .slice A L.length c, .int .i64 0] 29)).drewN n) fun e w' => e = .returned (.bool false) ∧ (w.alloc (.cells #[.int .i64 0, .int .i64 1, .slice A L.length c, .int .i64 0] 29)).drewN n = w') :=
    ⟨fun n => ContainsFunc37 L A c _ (Kd.C_below hr (pw_below_drewN hb n)) hL⟩
  have HB := Aside0.mk hb
  have d1 : decide (1 < L.length) = false := decide_eq_false (by omega)
  have d1' : decide ((1 : Int) < (L.length : Int)) = false := decide_eq_false (by omega)
  have d2 : decide ((L.length : Int) < 0) = false := decide_eq_false (by omega)
  clear hr hL hb
  go_enter Try.func21, Try.ntmps21
  go_wp2
  go_quiet ((first | (go_at_call 23; exact quiet_left (C1.out _)) | (go_at_call 32; exact quiet_left (C2.out _))))
  go_wp2
  go_ret
  exact ⟨rfl, by have := HB.out; exact ⟨this.os, this.tape, this.output, this.size, this.block⟩⟩

set_option maxHeartbeats 2000000 in
set_option maxRecDepth 100000 in
/-- Room of a log without records. -/
theorem Room0 (A : Option Addr) (c : Nat) (w : World) (hr : Ls w A []) :
    Calls Try.prog 14 #[.agg #[.int .i64 0, .int .i64 1, .slice A 0 c, .int .i64 0]] w fun e w' => e = .returned (.int .i64 112) ∧ Below w.heap.size w w' := by
  have hb : Below w.heap.size w (w.alloc (.cells #[.int .i64 0, .int .i64 1, .slice A 0 c, .int .i64 0] 29)) := (Below.refl _ w).alloc (Nat.le_refl _) _
  have hB := Blk.new w 29 #[.int .i64 0, .int .i64 1, .slice A 0 c, .int .i64 0]
  have C0 : Aside0 (Calls Try.prog 21 #[.agg #[.int .i64 0, .int .i64 1, .slice A 0 c, .int .i64 0]] (w.alloc (.cells #[.int .i64 0, .int .i64 1, .slice A 0 c, .int .i64 0] 29)) fun e w1 => e = .returned (.int .i64 0) ∧ Blk w1 w.heap.size 29 #[.int .i64 0, .int .i64 1, .slice A 0 c, .int .i64 0] ∧ Below w.heap.size w w1) :=
    ⟨(wCheck_few [] A c _ (Kd.C_below hr hb) (.inl rfl)).mono fun e w1 h => ⟨h.1, hB.below h.2 hB.lt, hb.trans (h.2.mono hb.size)⟩⟩
  have C1 : Aside0 (∀ w1 : World, Below w.heap.size w w1 → ∀ n, Calls Try.prog 23 #[.slice A 0 c] (w1.drewN n) fun e w' => e = .returned (.int .i64 0) ∧ w1.drewN n = w') :=
    ⟨fun w1 h1 n => used_few [] A c _ (Kd.C_below hr (pw_below_drewN h1 n)) (.inl rfl)⟩
  clear hr hb hB
  go_enter Try.func14, Try.ntmps14
  go_wp2_with (go_at_call 21; refine C0.out.mono ?_; rintro e w1 ⟨rfl, hB1, hb1⟩; obtain ⟨z0, z1, z2, z3⟩ := cells4 hB1; have HB1 := Aside0.mk hb1; clear hB1 hb1)
  go_quiet ((go_at_call 23; exact quiet_left (C1.out _ HB1.out _)))
  go_wp2
  go_ret
  exact ⟨rfl, by have := HB1.out; exact ⟨this.os, this.tape, this.output, this.size, this.block⟩⟩
end Go.Proofs.Ytfoojamabjpdpaa.Wal
