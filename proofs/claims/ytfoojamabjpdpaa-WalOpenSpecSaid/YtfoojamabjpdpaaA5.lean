import Derived.Test.YtfoojamabjpdpaaA4
/- Contracts of Same (at two equal logs) and few (at one record). -/
namespace Go.Proofs.Ytfoojamabjpdpaa.Wal
open Go.RowKit Go.Proofs.YtfoojamabjpdpaaW.PrintWords Go.Proofs.YtfoojamabjpdpaaW.PrintLast Go.Proofs.YtfoojamabjpdpaaW.PrintMore Go.Proofs.Ytfoojamabjpdpaa.PWalOpenSpec
attribute [local go_sem] max2_int min2_int max_two min_two max_three min_three max_four min_four
set_option linter.unusedVariables false
set_option linter.unusedSimpArgs false

theorem below2 (w : World) (o o' : Obj) : Below w.heap.size w ((w.alloc o).alloc o') := ((Below.refl _ w).alloc (Nat.le_refl _) _).alloc (by simp) _

set_option maxHeartbeats 1000000 in
set_option maxRecDepth 100000 in
theorem Same_eq (f m s : Int) (L : List (List Int)) (A B : Option Addr) (c d : Nat) (w : World) (hr : Ls w A L) (hs : Ls w B L) (hL : ∀ s ∈ L, N8 s) (hlen : L.length ≤ 140737488351232) :
    Calls Try.prog 8 #[.agg #[.int .i64 f, .int .i64 m, .slice A L.length c, .int .i64 s], .agg #[.int .i64 f, .int .i64 m, .slice B L.length d, .int .i64 s]] w
      fun e w' => e = .returned (.bool true) ∧ Below w.heap.size w w' := by
  have hb := below2 w (.cells #[.int .i64 f, .int .i64 m, .slice A L.length c, .int .i64 s] 29) (.cells #[.int .i64 f, .int .i64 m, .slice B L.length d, .int .i64 s] 29)
  have HR : Aside0 (Ls _ A L) := ⟨Kd.C_below hr hb⟩
  have HS : Aside0 (Ls _ B L) := ⟨Kd.C_below hs hb⟩
  have HB := Aside0.mk hb
  have HL := Aside0.mk hL
  clear hb hr hs hL
  go_enter Try.func8, Try.ntmps8
  go_wp2_with (go_at_call 19; refine (SameRecords_any L L A B c d _ HR.out HS.out HL.out HL.out hlen hlen).mono ?_; rw [show decide (L = L) = true by simp]; rintro e w' ⟨rfl, ⟨n, rfl⟩⟩)
  go_ret
  exact ⟨rfl, by have := HB.out; exact ⟨this.os, this.tape, this.output, this.size, this.block⟩⟩

set_option maxHeartbeats 1000000 in
set_option maxRecDepth 100000 in
theorem few_any (N : Nat) (left tear : Int) (st : Bool) (L : List (List Int)) (A B : Option Addr) (c d : Nat) (w : World) (hr : Ls w B L) (hlen : L.length ≤ 1)
    (hb8 : ∀ b ∈ L, b.length ≤ 140737488351232) (hN : N ≤ 140737488351232) :
    Calls Try.prog 5 #[.agg #[.slice A N c, .int .i64 left, .int .i64 tear, .bool st], .slice B L.length d] w
      fun e w' => e = .returned (.bool (decide (N ≤ 40) && decide (cnt L ≤ 4000))) ∧ Below w.heap.size w w' := by
  have hb : Below w.heap.size w (w.alloc (.cells #[.slice A N c, .int .i64 left, .int .i64 tear, .bool st] 24)) := (Below.refl _ _).alloc (Nat.le_refl _) _
  have HR : Aside0 (Ls _ B L) := ⟨Kd.C_below hr hb⟩
  have HB := Aside0.mk hb
  clear hb hr
  go_enter Try.func5, Try.ntmps5
  go_wp2
  go_loop [5, 7, 10] (fun v5 _ v10 => ∃ k : Nat, k ≤ L.length ∧ v10 = .int .i64 k ∧ v5 = .int .i64 (cnt (L.take k))) (fun _ _ v10 => L.length - (intOf v10).toNat)
  case atStart => exact ⟨0, Nat.zero_le _, rfl, rfl⟩
  case round =>
    obtain ⟨k, hk, rfl, rfl⟩ := hrel
    by_cases hlt : k < L.length
    · obtain ⟨ad, B1, c1, e, hx, _, _⟩ := HR.out.at_ k hlt
      cases e
      obtain rfl : k = 0 := by omega
      replace hx : World.cell? _ ad = _ := hx
      have hl := hb8 _ (gl_mem L 0 hlt)
      have h0 : 0 ≤ cnt (L.take 0) ∧ cnt (L.take 0) ≤ 0 := by simp [cnt]
      have HS : Hid (cnt (L.take 0) + (1 + ((gl L 0).length : Int)) = cnt (L.take (0 + 1))) := by show _ = _; rw [take_gl L 0 hlt, cnt_snoc]
      generalize cnt (L.take 0) = z at *
      go_wp2
      go_round
      case rel => exact ⟨1, by omega, by go_num, by rw [← HS.out]⟩
      case measure => simp [intOf]; omega
    · obtain rfl : k = L.length := by omega
      rw [List.take_length]
      by_cases h40 : N ≤ 40
      · have h40' : ((N : Int) ≤ 40) := by omega
        by_cases h4 : cnt L ≤ 4000
        all_goals
          go_wp2
          go_ret
          exact ⟨by simp [h40, h4], HB.out⟩
      · have h40' : ¬ ((N : Int) ≤ 40) := by omega
        go_wp2
        go_ret
        exact ⟨by simp [h40], HB.out⟩
end Go.Proofs.Ytfoojamabjpdpaa.Wal
