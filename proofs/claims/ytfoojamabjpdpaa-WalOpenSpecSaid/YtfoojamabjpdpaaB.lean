import Derived.Test.YtfoojamabjpdpaaA4
/- put writes a number into a part of a block that is known whole. -/
namespace Go.Proofs.Ytfoojamabjpdpaa.Wal
open Go.RowKit Go.Proofs.YtfoojamabjpdpaaW.PrintWords Go.Proofs.YtfoojamabjpdpaaW.PrintLast Go.Proofs.YtfoojamabjpdpaaW.PrintMore Go.Proofs.Ytfoojamabjpdpaa.PWalOpenSpec
attribute [local go_sem] max2_int min2_int max_two min_two max_three min_three max_four min_four
set_option linter.unusedVariables false
set_option linter.unusedSimpArgs false

/-- A block that is just these cells. -/
def Blk (w : World) (g : Nat) (t : TypeId) (cs : Array Value) : Prop := w.heap[g]? = some (.cells cs t (0, 0))
section
variable {w w' : World} {g : Nat} {t : TypeId} {cs : Array Value}
theorem Blk.lt (h : Blk w g t cs) : g < w.heap.size := by
  rcases Nat.lt_or_ge g w.heap.size with hlt | hge
  · exact hlt
  · unfold Blk at h; rw [Array.getElem?_eq_none hge] at h; cases h
theorem Blk.cell (h : Blk w g t cs) (i : Nat) : w.cell? ⟨g, i, none⟩ = cs[i]? := cell_of_row w g i cs t (0, 0) h
theorem Blk.frozen (h : Blk w g t cs) (i : Nat) : w.frozen? ⟨g, i, none⟩ = false := by
  unfold Blk at h
  simp [World.frozen?, h]
theorem Blk.new (w : World) (t : TypeId) (cs : Array Value) : Blk (w.alloc (.cells cs t)) w.heap.size t cs := heap_alloc_new w _
theorem Blk.drewN (h : Blk w g t cs) (n : Nat) : Blk (w.drewN n) g t cs := h
theorem Blk.alloc (h : Blk w g t cs) (o : Obj) : Blk (w.alloc o) g t cs := (Below.heap_alloc w o g h.lt).trans h
theorem Blk.set_ (h : Blk w g t cs) (i : Nat) (u : Value) : Blk (w.setCell ⟨g, i, none⟩ u) g t (cs.setIfInBounds i u) := by
  unfold Blk at h ⊢
  simp [World.setCell, Array.getElem?_modify, h]
theorem Blk.far (h : Blk w g t cs) {p : Addr} (hp : g ≠ p.block) (u : Value) : Blk (w.setCell p u) g t cs := (Below.heap_setCell w p u g hp).trans h
theorem Blk.below {B : Nat} (h : Blk w g t cs) (hb : Below B w w') (hg : g < B) : Blk w' g t cs := (hb.block g hg).trans h
theorem Blk.grown {row : Option Nat} (h : Blk w g t cs) (hb : w.grownBy w' row) (hg : some g ≠ row) : Blk w' g t cs := (hb.block g h.lt hg).trans h
end
theorem grown_set (w : World) (g i : Nat) (u : Value) : w.grownBy (w.setCell ⟨g, i, none⟩ u) (some g) :=
  ⟨rfl, rfl, rfl, by simp [World.setCell], fun k hk hne => Below.heap_setCell w ⟨g, i, none⟩ u k (fun e => hne (by rw [e]))⟩
theorem grown_trans {a b c : World} {row : Option Nat} (h : a.grownBy b row) (k : b.grownBy c row) : a.grownBy c row :=
  ⟨k.os.trans h.os, k.tape.trans h.tape, k.output.trans h.output, Nat.le_trans h.size k.size, fun i hi hne => (k.block i (Nat.lt_of_lt_of_le hi h.size) hne).trans (h.block i hi hne)⟩

/-- A list of bytes as cells. -/
def u8s (D : List Int) : Array Value := (D.map (Value.int .u8)).toArray
theorem u8s_at (D : List Int) (i : Nat) (h : i < D.length) : (u8s D)[i]? = some (.int .u8 (gd D i)) := by
  simp [u8s, gd, h]
theorem u8s_set (D : List Int) (i : Nat) (v : Int) : (u8s D).setIfInBounds i (.int .u8 v) = u8s (D.set i v) := by
  simp [u8s, List.map_set]
theorem Blk.u8 {w : World} {g : Nat} {t : TypeId} {D : List Int} (h : Blk w g t (u8s D)) (i : Nat) (hi : i < D.length) : w.cell? ⟨g, i, none⟩ = some (.int .u8 (gd D i)) := (h.cell i).trans (u8s_at D i hi)

set_option maxHeartbeats 1000000 in
set_option maxRecDepth 100000 in
theorem put4_any (L : List Int) (g lo c : Nat) (t : TypeId) (n : Int) (w : World) (h : Blk w g t (u8s L)) (hlo : lo + 4 ≤ L.length) (hn : 0 ≤ n) :
    Calls Try.prog 40 #[.slice (some ⟨g, lo, none⟩) 4 c, .int .u64 n] w fun e w' => e = .returned (.tuple #[]) ∧ Blk w' g t (u8s (putR L lo 4 n 4)) ∧ w.grownBy w' (some g) := by
  have H := Aside0.mk h
  clear h
  go_enter Try.func40, Try.ntmps40
  go_wp2
  go_loopw [4, 7] (fun _ v7 wr => ∃ k : Nat, k ≤ 4 ∧ v7 = .int .i64 k ∧ Aside0 (Blk wr g t (u8s (putR L lo 4 n k))) ∧ Aside0 (w.grownBy wr (some g))) (fun _ v7 _ => 4 - (intOf v7).toNat)
  case atStart => exact ⟨0, by omega, rfl, H, ⟨World.grownBy.refl w _⟩⟩
  case round =>
    obtain ⟨k, hk, rfl, HB, HG⟩ := hrel
    by_cases h4 : k = 4
    · subst h4
      go_wp2
      go_end0
      exact ⟨rfl, HB.out, HG.out⟩
    · have hc := HB.out.u8 (lo + (4 - 1 - k)) (by rw [putR_length]; omega)
      have hf := HB.out.frozen (lo + (4 - 1 - k))
      have HS : Aside0 (Blk (wr.setCell ⟨g, lo + (4 - 1 - k), none⟩ (.int .u8 (n / 256 ^ k % 256))) g t (u8s (putR L lo 4 n (k + 1)))) := ⟨by
        have := HB.out.set_ (lo + (4 - 1 - k)) (.int .u8 (n / 256 ^ k % 256))
        rwa [u8s_set] at this⟩
      have HG' : Aside0 (w.grownBy (wr.setCell ⟨g, lo + (4 - 1 - k), none⟩ (.int .u8 (n / 256 ^ k % 256))) (some g)) := ⟨grown_trans HG.out (grown_set _ _ _ _)⟩
      generalize gd (putR L lo 4 n k) (lo + (4 - 1 - k)) = z at *
      obtain rfl | rfl | rfl | rfl : k = 0 ∨ k = 1 ∨ k = 2 ∨ k = 3 := by omega
      all_goals
        simp only [Nat.reduceSub, Nat.add_zero] at hc hf
        simp only [Nat.reduceSub, Nat.add_zero, Int.reducePow, Int.ediv_one, Nat.reduceAdd] at HS HG'
        go_wp2
        go_roundw
        case rel => exact ⟨_, (by omega : _ + 1 ≤ 4), rfl, HS, HG'⟩
        case measure => simp [intOf]

set_option maxHeartbeats 1000000 in
set_option maxRecDepth 100000 in
theorem put2_any (L : List Int) (g lo c : Nat) (t : TypeId) (n : Int) (w : World) (h : Blk w g t (u8s L)) (hlo : lo + 2 ≤ L.length) (hn : 0 ≤ n) :
    Calls Try.prog 40 #[.slice (some ⟨g, lo, none⟩) 2 c, .int .u64 n] w fun e w' => e = .returned (.tuple #[]) ∧ Blk w' g t (u8s (putR L lo 2 n 2)) ∧ w.grownBy w' (some g) := by
  have H := Aside0.mk h
  clear h
  go_enter Try.func40, Try.ntmps40
  go_wp2
  go_loopw [4, 7] (fun _ v7 wr => ∃ k : Nat, k ≤ 2 ∧ v7 = .int .i64 k ∧ Aside0 (Blk wr g t (u8s (putR L lo 2 n k))) ∧ Aside0 (w.grownBy wr (some g))) (fun _ v7 _ => 2 - (intOf v7).toNat)
  case atStart => exact ⟨0, by omega, rfl, H, ⟨World.grownBy.refl w _⟩⟩
  case round =>
    obtain ⟨k, hk, rfl, HB, HG⟩ := hrel
    by_cases h4 : k = 2
    · subst h4
      go_wp2
      go_end0
      exact ⟨rfl, HB.out, HG.out⟩
    · have hc := HB.out.u8 (lo + (2 - 1 - k)) (by rw [putR_length]; omega)
      have hf := HB.out.frozen (lo + (2 - 1 - k))
      have HS : Aside0 (Blk (wr.setCell ⟨g, lo + (2 - 1 - k), none⟩ (.int .u8 (n / 256 ^ k % 256))) g t (u8s (putR L lo 2 n (k + 1)))) := ⟨by
        have := HB.out.set_ (lo + (2 - 1 - k)) (.int .u8 (n / 256 ^ k % 256))
        rwa [u8s_set] at this⟩
      have HG' : Aside0 (w.grownBy (wr.setCell ⟨g, lo + (2 - 1 - k), none⟩ (.int .u8 (n / 256 ^ k % 256))) (some g)) := ⟨grown_trans HG.out (grown_set _ _ _ _)⟩
      generalize gd (putR L lo 2 n k) (lo + (2 - 1 - k)) = z at *
      obtain rfl | rfl : k = 0 ∨ k = 1 := by omega
      all_goals
        simp only [Nat.reduceSub, Nat.add_zero] at hc hf
        simp only [Nat.reduceSub, Nat.add_zero, Int.reducePow, Int.ediv_one, Nat.reduceAdd] at HS HG'
        go_wp2
        go_roundw
        case rel => exact ⟨_, (by omega : _ + 1 ≤ 2), rfl, HS, HG'⟩
        case measure => simp [intOf]
end Go.Proofs.Ytfoojamabjpdpaa.Wal
