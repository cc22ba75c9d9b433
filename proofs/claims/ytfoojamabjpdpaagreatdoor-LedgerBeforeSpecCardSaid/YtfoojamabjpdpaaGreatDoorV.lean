import Derived.Test.YtfoojamabjpdpaaGreatDoorS4
import Derived.Test.YtfoojamabjpdpaaGreatDoorS1
/- Plain laws of the printed functions: same, SamePart, Before, Same, few answer, and what they answer. -/
namespace Go.Proofs.YtfoojamabjpdpaaGreatDoor.Led
open Go.RowKit Go.Proofs.YtfoojamabjpdpaaGreatDoorW.PrintWords Go.Proofs.YtfoojamabjpdpaaGreatDoorW.PrintLast Go.Proofs.YtfoojamabjpdpaaGreatDoorW.PrintMore Go.Proofs.YtfoojamabjpdpaaGreatDoor.PLedgerBeforeSpec
def neA (x y : S32) : Bool := (!((x.f0) == (y.f0)) || (!(((x.f1).toList) == ((y.f1).toList)) || (!(((x.f2).toList) == ((y.f2).toList)) || (!(((x.f3).toList) == ((y.f3).toList)) || (!((x.f4) == (y.f4)) || (!((x.f5) == (y.f5))))))))
def allR (p : Nat → Bool) (i d : Nat) : Bool := (List.range' i d).all p
theorem allR_zero (p : Nat → Bool) (i : Nat) : allR p i 0 = true := rfl
theorem allR_succ (p : Nat → Bool) (i d : Nat) : allR p i (d + 1) = (p i && allR p (i + 1) d) := rfl
def eqA (l m : List S32) (j : Nat) : Bool := !neA (rd_T32 l j) (rd_T32 m j)
def sameA (l m : List S32) : Bool := decide (l.length = m.length) && allR (eqA l m) 0 l.length
theorem wrap_succ (i : Nat) (h : i + 1 < 2 ^ 63) : wrap64 ((i : Int) + 1) = ((i + 1 : Nat) : Int) := by
  unfold wrap64; omega
theorem a29_loop (l m : List S32) (he : l.length = m.length) (hb : l.length < 2 ^ 63) : ∀ d i, i + d = l.length → api_Atom_29.l0 (d + 1) l m (l.length : Int) (i : Int) = some (allR (eqA l m) i d)
  | 0, i, h => by
    unfold api_Atom_29.l0
    rw [if_neg (by omega), allR_zero]
  | d + 1, i, h => by
    unfold api_Atom_29.l0
    rw [if_pos (by omega), if_pos (by omega), if_pos (by omega), if_pos (by omega), allR_succ, wrap_succ i (by omega), a29_loop l m he hb d (i + 1) (by omega)]
    show (if neA (rd_T32 l i) (rd_T32 m i) = true then _ else _) = some ((!neA (rd_T32 l i) (rd_T32 m i)) && _)
    cases neA (rd_T32 l i) (rd_T32 m i) <;> simp
theorem a16_says (l m : List S32) (hb : l.length < 2 ^ 63) : ∃ k, api_Atom_16.f k l m = some (sameA l m) := by
  refine ⟨l.length + 1, ?_⟩
  unfold api_Atom_16.f api_Atom_29.f sameA
  by_cases he : l.length = m.length
  · rw [if_pos (by omega), if_pos (by omega)]
    have := a29_loop l m he hb l.length 0 (by omega)
    rw [show ((0 : Nat) : Int) = 0 from rfl] at this
    rw [this]; simp [he]
  · rw [if_neg (by omega)]; simp [he]
theorem part_loop (l m : List S32) (he : l.length = m.length) (hb : l.length < 2 ^ 63) : ∀ d i, i + d = l.length → veilstoneref38_SamePart.l0 (d + 1) (i : Int) l m = some (allR (eqA l m) i d)
  | 0, i, h => by
    unfold veilstoneref38_SamePart.l0
    rw [if_neg (by omega), allR_zero]
  | d + 1, i, h => by
    unfold veilstoneref38_SamePart.l0
    rw [if_pos (by omega), if_pos (by omega), if_pos (by omega), allR_succ, wrap_succ i (by omega), part_loop l m he hb d (i + 1) (by omega)]
    show (if neA (rd_T32 l i) (rd_T32 m i) = true then _ else _) = some ((!neA (rd_T32 l i) (rd_T32 m i)) && _)
    cases neA (rd_T32 l i) (rd_T32 m i) <;> simp
theorem part_says (l m : List S32) (hb : l.length < 2 ^ 63) : ∃ k, veilstoneref38_SamePart.f k l m = some (sameA l m) := by
  refine ⟨l.length + 1, ?_⟩
  unfold veilstoneref38_SamePart.f sameA
  by_cases he : l.length = m.length
  · rw [if_pos (by omega)]
    have := part_loop l m he hb l.length 0 (by omega)
    rw [show ((0 : Nat) : Int) = 0 from rfl] at this
    rw [this]; simp [he]
  · rw [if_neg (by omega)]; simp [he]
def eqE (l m : List S39) (j : Nat) : Bool := decide ((rd_T39 l j).f0 = (rd_T39 m j).f0) && sameA (rd_T39 l j).f1.f0 (rd_T39 m j).f1.f0
def befS (a0 : ByteArray) (n0 : Int) (l : List S39) (a1 : ByteArray) (n1 : Int) (m : List S39) : Bool := decide (a0.toList = a1.toList) && (decide (n0 = n1) && (decide (l.length ≤ m.length) && allR (eqE l m) 0 l.length))
theorem part_more {l m : List S32} {r : Bool} {k k' : Nat} (hk : k ≤ k') (h : veilstoneref38_SamePart.f k l m = some r) : veilstoneref38_SamePart.f k' l m = some r := at_rounds (g := fun k => veilstoneref38_SamePart.f k l m) (fun k => veilstoneref38_SamePart.mono l m k) hk h
theorem befl_more {i : Int} {a0 : ByteArray} {n0 : Int} {l : List S39} {a1 : ByteArray} {n1 : Int} {m : List S39} {r : Bool} {k k' : Nat} (hk : k ≤ k') (h : veilstoneref38_Before.l0 k i a0 n0 l a1 n1 m = some r) : veilstoneref38_Before.l0 k' i a0 n0 l a1 n1 m = some r := at_rounds (g := fun k => veilstoneref38_Before.l0 k i a0 n0 l a1 n1 m) (fun k => (veilstoneref38_Before.mono_l k).2 i a0 n0 l a1 n1 m) hk h
theorem bef_loop (a0 : ByteArray) (n0 : Int) (l : List S39) (a1 : ByteArray) (n1 : Int) (m : List S39) (he : l.length ≤ m.length) (hb : l.length < 2 ^ 63) (hp : ∀ e ∈ l, e.f1.f0.length < 2 ^ 63) : ∀ d i, i + d = l.length → ∃ k, veilstoneref38_Before.l0 k (i : Int) a0 n0 l a1 n1 m = some (allR (eqE l m) i d)
  | 0, i, h => ⟨1, by
    unfold veilstoneref38_Before.l0
    rw [if_neg (by omega), allR_zero]⟩
  | d + 1, i, h => by
    obtain ⟨k1, h1⟩ := bef_loop a0 n0 l a1 n1 m he hb hp d (i + 1) (by omega)
    have hm : rd_T39 l i ∈ l := by
      unfold rd_T39
      rw [Int.toNat_natCast, List.getD_eq_getElem?_getD, List.getElem?_eq_getElem (by omega)]
      exact List.getElem_mem _
    obtain ⟨k2, h2⟩ := part_says (rd_T39 l i).f1.f0 (rd_T39 m i).f1.f0 (hp _ hm)
    refine ⟨max k1 k2 + 1, ?_⟩
    unfold veilstoneref38_Before.l0
    rw [if_pos (by omega), if_pos (by omega), if_pos (by omega), allR_succ, wrap_succ i (by omega), befl_more (Nat.le_max_left k1 k2) h1, part_more (Nat.le_max_right k1 k2) h2]
    unfold eqE
    by_cases hf : (rd_T39 l i).f0 = (rd_T39 m i).f0
    · rw [if_pos hf]
      simp only [hf, decide_true, Bool.true_and, Option.bind_some]
      cases sameA (rd_T39 l i).f1.f0 (rd_T39 m i).f1.f0 <;> simp
    · rw [if_neg hf]
      simp [hf]
theorem j0_eq (k : Nat) (b : Bool) (a0 : ByteArray) (n0 : Int) (l : List S39) (a1 : ByteArray) (n1 : Int) (m : List S39) : veilstoneref38_Before.j0 (k + 1) b a0 n0 l a1 n1 m = if b = true then some false else veilstoneref38_Before.l0 k 0 a0 n0 l a1 n1 m := rfl
theorem bef_says (a0 : ByteArray) (n0 : Int) (l : List S39) (a1 : ByteArray) (n1 : Int) (m : List S39) (hb : l.length < 2 ^ 63) (hp : ∀ e ∈ l, e.f1.f0.length < 2 ^ 63) : ∃ k, veilstoneref38_Before.f k a0 n0 l a1 n1 m = some (befS a0 n0 l a1 n1 m) := by
  unfold befS veilstoneref38_Before.f
  by_cases h1 : a0.toList = a1.toList
  · by_cases h2 : n0 = n1
    · by_cases h3 : l.length ≤ m.length
      · obtain ⟨k, h⟩ := bef_loop a0 n0 l a1 n1 m h3 hb hp l.length 0 (by omega)
        refine ⟨k + 1, ?_⟩
        rw [if_pos h1, if_pos h2, j0_eq, if_neg (by simp; omega)]
        rw [show ((0 : Nat) : Int) = 0 from rfl] at h
        rw [h]; simp [h1, h2, h3]
      · refine ⟨1, ?_⟩
        rw [if_pos h1, if_pos h2, j0_eq, if_pos (by simp; omega)]
        simp [h3]
    · refine ⟨1, ?_⟩
      rw [if_pos h1, if_neg h2, j0_eq]
      simp [h2]
  · refine ⟨1, ?_⟩
    rw [if_neg h1, j0_eq]
    simp [h1]
theorem same_says (a0 : ByteArray) (n0 : Int) (l : List S39) (a1 : ByteArray) (n1 : Int) (m : List S39) (hb : l.length < 2 ^ 63) (hp : ∀ e ∈ l, e.f1.f0.length < 2 ^ 63) : ∃ k, veilstoneref38_Same.f k a0 n0 l a1 n1 m = some (decide (l.length = m.length) && befS a0 n0 l a1 n1 m) := by
  obtain ⟨k, h⟩ := bef_says a0 n0 l a1 n1 m hb hp
  refine ⟨k, ?_⟩
  unfold veilstoneref38_Same.f
  by_cases he : l.length = m.length
  · rw [if_pos (by omega), h]; simp [he]
  · rw [if_neg (by omega)]; simp [he]
theorem few_loop (l : List S39) (a0 : ByteArray) (n0 : Int) (hb : l.length < 2 ^ 63) : ∀ d i (x : Int), i + d = l.length → ∃ r, veilstonelaw38_few.l0 (d + 1) x l (l.length : Int) (i : Int) a0 n0 l = some r
  | 0, i, x, h => by
    unfold veilstonelaw38_few.l0
    rw [if_neg (by omega)]
    split <;> exact ⟨_, rfl⟩
  | d + 1, i, x, h => by
    unfold veilstonelaw38_few.l0
    rw [if_pos (by omega), if_pos (by omega), if_pos (by omega), wrap_succ i (by omega)]
    exact few_loop l a0 n0 hb d (i + 1) _ (by omega)
theorem few_says (a0 : ByteArray) (n0 : Int) (l : List S39) (hb : l.length < 2 ^ 63) : ∃ k r, veilstonelaw38_few.f k a0 n0 l = some r :=
  ⟨l.length + 1, few_loop l a0 n0 hb l.length 0 0 (by omega)⟩
theorem allR_self (p : Nat → Bool) (hp : ∀ j, p j = true) (i d : Nat) : allR p i d = true := by
  unfold allR; rw [List.all_eq_true]; intro j _; exact hp j
theorem sameA_self (l : List S32) : sameA l l = true := by
  unfold sameA
  rw [allR_self _ (fun j => by simp [eqA, neA])]; simp
theorem befS_self (a : ByteArray) (n : Int) (l : List S39) : befS a n l a n l = true := by
  unfold befS
  rw [allR_self _ (fun j => by simp [eqE, sameA_self])]; simp
end Go.Proofs.YtfoojamabjpdpaaGreatDoor.Led
