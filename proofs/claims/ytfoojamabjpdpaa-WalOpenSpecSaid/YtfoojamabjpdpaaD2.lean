import Derived.Deep.OwnRows
import Derived.Test.YtfoojamabjpdpaaD1
/- The closed run: New. -/
namespace Go.Proofs.Ytfoojamabjpdpaa.Wal
open Go.RowKit Go.Proofs.YtfoojamabjpdpaaW.PrintWords Go.Proofs.YtfoojamabjpdpaaW.PrintLast Go.Proofs.YtfoojamabjpdpaaW.PrintMore Go.Proofs.Ytfoojamabjpdpaa.PWalOpenSpec
attribute [local go_sem] max2_int min2_int max_two min_two max_three min_three max_four min_four
set_option linter.unusedVariables false
set_option linter.unusedSimpArgs false

def Z : List Int := List.replicate 128 0
theorem Z_len : Z.length = 128 := by simp [Z]
theorem Z_n8 : N8 Z := by intro x hx; simp [Z] at hx; omega
/-- A row of zeros of its own. -/
def Zr (w : World) (v : Value) : Prop := ∃ b, v = .slice (some ⟨b, 0, none⟩) 128 128 ∧ Blk w b 5 (u8s Z)
theorem Zr.below {w w' : World} {v : Value} (h : Zr w v) (hb : Below w.heap.size w w') : Zr w' v := by
  obtain ⟨b, rfl, h⟩ := h
  exact ⟨b, rfl, h.below hb h.lt⟩
theorem within_any (a b c : Int) (r : Bool) (hr : (decide (b ≤ a) && decide (a ≤ c)) = r) (w : World) : Calls Try.prog 20 #[.int .i64 a, .int .i64 b, .int .i64 c] w fun e w' => e = .returned (.bool r) ∧ w = w' := by
  by_cases h1 : b ≤ a
  · by_cases h2 : a ≤ c
    · obtain rfl : r = true := by rw [← hr]; simp [h1, h2]
      go_enter Try.func20, Try.ntmps20
      go_wp2
      go_ret
      exact ⟨rfl, rfl⟩
    · obtain rfl : r = false := by rw [← hr]; simp [h1, h2]
      go_enter Try.func20, Try.ntmps20
      go_wp2
      go_ret
      exact ⟨rfl, rfl⟩
  · obtain rfl : r = false := by rw [← hr]; simp [h1]
    go_enter Try.func20, Try.ntmps20
    go_wp2
    go_ret
    exact ⟨rfl, rfl⟩
theorem made22 : madeCells #[.slice none 0 0] 2 = #[.slice none 0 0, .slice none 0 0] := by kernel_rfl
theorem made25 : madeCells #[.int .u8 0] 128 = u8s Z := by kernel_rfl
theorem make22 (W : World) : (Instr.makeSlice 22 (.int .i64 2) (.int .i64 2)).run Try.prog W = .ok (.slice (some ⟨W.heap.size, 0, none⟩) 2 2) (W.alloc (.cells #[.slice none 0 0, .slice none 0 0] 25)) := by
  rw [← made22]
  exact run_make_row' (P := Try.prog) 22 25 (.slice none 0 0) 24 Try.underlying22 info25 rfl .i64 .i64 2 (by decide) (by decide) W
theorem make25 (W : World) : (Instr.makeSlice 25 (.int .i64 128) (.int .i64 128)).run Try.prog W = .ok (.slice (some ⟨W.heap.size, 0, none⟩) 128 128) (W.alloc (.cells (u8s Z) 5)) := by
  rw [← made25]
  exact run_make_row' (P := Try.prog) 25 5 (.int .u8 0) 1 Try.underlying25 info5 rfl .i64 .i64 128 (by decide) (by decide) W
set_option maxHeartbeats 4000000 in
set_option maxRecDepth 100000 in
theorem New2 (w : World) : Calls Try.prog 11 #[.int .i64 2] w fun e w' => ∃ v0 v1 g, e = .returned (.tuple #[.agg #[.slice (some ⟨g, 0, none⟩) 2 2, .int .i64 (-1), .int .i64 0, .bool false], .int .i64 0]) ∧ Blk w' g 25 #[v0, v1] ∧ Zr w' v0 ∧ Zr w' v1 ∧ Below w.heap.size w w' := by
  have mk1 := make22
  have mk2 := make25
  go_enter Try.func11, Try.ntmps11
  go_wp2_with (go_at_call 20; refine (within_any _ _ _ true (by decide) _).mono ?_; rintro e w' ⟨rfl, rfl⟩)
  go_loopw [4, 16] (fun _ v16 wr => ∃ (k : Nat) (v0 v1 : Value), k ≤ 2 ∧ v16 = .int .i64 k ∧ Aside0 (Blk wr w.heap.size 24 #[.slice (some ⟨w.heap.size + 1, 0, none⟩) 2 2, .int .i64 (-1), .int .i64 0, .bool false] ∧ Blk wr (w.heap.size + 1) 25 #[v0, v1] ∧ (1 ≤ k → Zr wr v0) ∧ (2 ≤ k → Zr wr v1) ∧ Below w.heap.size w wr)) (fun _ v16 _ => 2 - (intOf v16).toNat)
  case atStart =>
    have h1 := (Blk.new w 24 #[.slice (some ⟨w.heap.size + 1, 0, none⟩) 2 2, .int .i64 (-1), .int .i64 0, .bool false]).alloc (.cells #[.slice none 0 0, .slice none 0 0] 25)
    have h2 := Blk.new (w.alloc (.cells #[.slice (some ⟨w.heap.size + 1, 0, none⟩) 2 2, .int .i64 (-1), .int .i64 0, .bool false] 24)) 25 #[.slice none 0 0, .slice none 0 0]
    rw [World.size_alloc] at h2
    exact ⟨0, .slice none 0 0, .slice none 0 0, by omega, rfl, ⟨h1, h2, fun h => by omega, fun h => by omega, ((Below.refl _ w).alloc (Nat.le_refl _) _).alloc (by simp) _⟩⟩
  case round =>
    obtain ⟨k, v0, v1, hk, rfl, HI⟩ := hrel
    obtain ⟨hd, hr, hz0, hz1, hb⟩ := HI.out
    have f0 := hr.frozen 0
    have f1 := hr.frozen 1
    obtain ⟨c0, c1, c2, c3⟩ := cells4 hd
    have g0 := hd.frozen 0
    have g1 := hd.frozen 1
    have g2 := hd.frozen 2
    have g3 := hd.frozen 3
    have r0 : wr.cell? ⟨w.heap.size + 1, 0, none⟩ = some v0 := hr.cell 0
    have r1 : wr.cell? ⟨w.heap.size + 1, 1, none⟩ = some v1 := hr.cell 1
    have a0 : (wr.alloc (.cells (u8s Z) 5)).cell? ⟨w.heap.size, 0, none⟩ = some (.slice (some ⟨w.heap.size + 1, 0, none⟩) 2 2) := (hd.alloc _).cell 0
    have s0 : (wr.alloc (.cells (u8s Z) 5)).cell? ⟨w.heap.size + 1, 0, none⟩ = some v0 := (hr.alloc _).cell 0
    have s1 : (wr.alloc (.cells (u8s Z) 5)).cell? ⟨w.heap.size + 1, 1, none⟩ = some v1 := (hr.alloc _).cell 1
    have t0 := (hr.alloc (.cells (u8s Z) 5)).frozen 0
    have t1 := (hr.alloc (.cells (u8s Z) 5)).frozen 1
    clear hd hr hz0 hz1 hb
    rcases (show k = 0 ∨ k = 1 ∨ k = 2 by omega) with rfl | rfl | rfl
    · go_wp2
      go_region
      go_wp2
      go_roundw
      case rel =>
        obtain ⟨hd, hr, hz0, hz1, hb⟩ := HI.out
        exact ⟨1, .slice (some ⟨wr.heap.size, 0, none⟩) 128 128, v1, by omega, rfl, ⟨(hd.alloc _).far (p := ⟨w.heap.size + 1, 0, none⟩) (by simp) _, (hr.alloc _).set_ 0 _, fun _ => ⟨wr.heap.size, rfl, (Blk.new wr 5 (u8s Z)).far (p := ⟨w.heap.size + 1, 0, none⟩) (by have := hr.lt; simp; omega) _⟩, fun h => by omega,
          pw_below_drewN ((hb.alloc hb.size _).setCell (p := ⟨w.heap.size + 1, 0, none⟩) (by simp) _) 1⟩⟩
      case measure => simp [intOf]
    · go_wp2
      go_region
      go_wp2
      go_roundw
      case rel =>
        obtain ⟨hd, hr, hz0, hz1, hb⟩ := HI.out
        obtain ⟨b0, rfl, hb0⟩ := hz0 (by omega)
        have hne : b0 ≠ w.heap.size + 1 := by
          rintro rfl
          have := (show wr.heap[w.heap.size + 1]? = _ from hb0).symm.trans hr
          cases this
        exact ⟨2, .slice (some ⟨b0, 0, none⟩) 128 128, .slice (some ⟨wr.heap.size, 0, none⟩) 128 128, by omega, rfl, ⟨(hd.alloc _).far (p := ⟨w.heap.size + 1, 1, none⟩) (by simp) _, (hr.alloc _).set_ 1 _, fun _ => ⟨b0, rfl, (hb0.alloc _).far (p := ⟨w.heap.size + 1, 1, none⟩) hne _⟩,
          fun _ => ⟨wr.heap.size, rfl, (Blk.new wr 5 (u8s Z)).far (p := ⟨w.heap.size + 1, 1, none⟩) (by have := hr.lt; simp; omega) _⟩,
          pw_below_drewN ((hb.alloc hb.size _).setCell (p := ⟨w.heap.size + 1, 1, none⟩) (by simp) _) 1⟩⟩
      case measure => simp [intOf]
    · go_wp2
      obtain ⟨hd, hr, hz0, hz1, hb⟩ := HI.out
      obtain ⟨b0, rfl, hb0⟩ := hz0 (by omega)
      obtain ⟨b1, rfl, hb1⟩ := hz1 (by omega)
      have hn0 : b0 ≠ w.heap.size := by
        rintro rfl
        have := (show wr.heap[w.heap.size]? = _ from hb0).symm.trans hd
        cases this
      have hn1 : b1 ≠ w.heap.size := by
        rintro rfl
        have := (show wr.heap[w.heap.size]? = _ from hb1).symm.trans hd
        cases this
      obtain ⟨q0, q1, q2, q3⟩ := cells4 (set4_blk hd (.slice (some ⟨w.heap.size + 1, 0, none⟩) 2 2) (.int .i64 (-1)) (.int .i64 0) (.bool false))
      have far : ∀ {g t : Nat} {cs : Array Value}, g ≠ w.heap.size → Blk wr g t cs → Blk (set4 wr w.heap.size (.slice (some ⟨w.heap.size + 1, 0, none⟩) 2 2) (.int .i64 (-1)) (.int .i64 0) (.bool false)) g t cs := fun hg h =>
        (((h.far (p := ⟨w.heap.size, 0, none⟩) hg _).far (p := ⟨w.heap.size, 1, none⟩) hg _).far (p := ⟨w.heap.size, 2, none⟩) hg _).far (p := ⟨w.heap.size, 3, none⟩) hg _
      refine bodyPost_ret (v := .tuple #[.agg #[.slice (some ⟨w.heap.size + 1, 0, none⟩) 2 2, .int .i64 (-1), .int .i64 0, .bool false], .int .i64 0]) (by simp [results, Try.results11, go_sem, q0, q1, q2, q3]) rfl ?_
      exact ⟨_, _, _, rfl, far (by omega) hr, ⟨b0, rfl, far hn0 hb0⟩, ⟨b1, rfl, far hn1 hb1⟩, set4_below hb (Nat.le_refl _) _ _ _ _⟩
end Go.Proofs.Ytfoojamabjpdpaa.Wal
