import Derived.Test.YtfoojamabjpdpaaB2
import Derived.Test.YtfoojamabjpdpaaS2
/- good tells whether a sector is good. -/
namespace Go.Proofs.Ytfoojamabjpdpaa.Wal
open Go.RowKit Go.Proofs.YtfoojamabjpdpaaW.PrintWords Go.Proofs.YtfoojamabjpdpaaW.PrintLast Go.Proofs.YtfoojamabjpdpaaW.PrintMore Go.Proofs.Ytfoojamabjpdpaa.PWalOpenSpec
attribute [local go_sem] max2_int min2_int max_two min_two max_three min_three max_four min_four
set_option linter.unusedVariables false
set_option linter.unusedSimpArgs false

theorem and2 (z : Int) (h0 : 0 ≤ z) (h3 : z ≤ 3) : (Go.bits .and .u8 z 2 == 0) = decide (z < 2) := by
  obtain rfl | rfl | rfl | rfl : z = 0 ∨ z = 1 ∨ z = 2 ∨ z = 3 := by omega
  all_goals rfl
theorem and1 (z : Int) (h0 : 0 ≤ z) (h3 : z ≤ 3) : (Go.bits .and .u8 z 1 == 0) = decide (z % 2 = 0) := by
  obtain rfl | rfl | rfl | rfl : z = 0 ∨ z = 1 ∨ z = 2 ∨ z = 3 := by omega
  all_goals rfl
theorem add_add (a : Addr) (i j : Nat) : (a.add i).add j = a.add (i + j) := by
  unfold Addr.add
  by_cases hi : i = 0 <;> by_cases hj : j = 0 <;> simp [hi, hj, Nat.add_assoc]
theorem Rd.of {w : World} {ad : Addr} {l : List Int} (h : ∀ k, k < l.length → w.cell? (ad.add k) = some (.int .u8 (gd l k))) (hl : l.length ≤ 9223372036854775807) : Rd w (some ad) l :=
  ⟨rfl, hl, fun _ => ⟨_, rfl, fun j p hp => ⟨[.int .u8 p], rfl, rfl, fun i u hu => by
    have hj : j < l.length := (List.getElem?_eq_some_iff.1 hp).1
    obtain rfl : i = 0 := by
      have := (List.getElem?_eq_some_iff.1 hu).1
      simpa using this
    obtain rfl : Value.int .u8 p = u := by simpa using hu
    show w.cell? (ad.add (j * 1 + 0)) = _
    rw [Nat.mul_one, Nat.add_zero, h j hj, gd, List.getD_eq_getElem?_getD, hp, Option.getD_some]⟩⟩⟩
/-- A part of what is read. -/
theorem Rd.part {w : World} {ad : Addr} {s : List Int} (h : Rd w (some ad) s) (lo hi : Nat) (h2 : hi ≤ s.length) : Rd w (some (ad.add lo)) ((s.take hi).drop lo) := by
  have hl : s.length ≤ 9223372036854775807 := h.2.1
  refine Rd.of (fun k hk => ?_) (by rw [List.length_drop, List.length_take]; omega)
  rw [List.length_drop, List.length_take] at hk
  rw [add_add, gd_drop, gd_take _ _ _ (by omega)]
  obtain ⟨ad', e, hc⟩ := h.at_ (lo + k) (by omega)
  cases e
  exact hc
theorem Rd.take {w : World} {ad : Addr} {s : List Int} (h : Rd w (some ad) s) (hi : Nat) (h2 : hi ≤ s.length) : Rd w (some ad) (s.take hi) := h.part 0 hi h2

/-- A cut of a slice whose elements are of one cell. -/
theorem slice_run {P : Program} (t e : TypeId) (ht : P.underlying t = some (.slice e)) (hsz : (P.info? e).map (·.size) = some 1) (A : Option Addr) (len cap lo hi : Nat) (h1 : lo ≤ hi) (h2 : hi ≤ len) (h3 : len ≤ cap) (W : World) :
    (Instr.slice t (.slice A len cap) (some (.int .i64 (lo : Int))) (some (.int .i64 (hi : Int))) none).run P W = .ok (.slice (if cap = lo then A else A.map (·.add lo)) (hi - lo) (cap - lo)) W := by
  obtain ⟨i, hi', hs⟩ := Option.map_eq_some_iff.1 hsz
  have hel : P.elem t = e := by simp [Program.elem, ht]
  have hu : P.underlying t = some (.slice (P.elem t)) := by rw [hel]; exact ht
  rw [run_slice_lh W t A len cap hu .i64 .i64 lo hi (by omega) (by omega) (by omega), hel]
  simp [sizeOf, typeInfo, hi', hs, sliced, Result.andThen]

theorem goodS_of_form {s : List Int} {k : Int} (h : formS s = false) : goodS s k = false := by simp [goodS, h]

set_option maxHeartbeats 1000000 in
set_option maxRecDepth 100000 in
theorem good_no (s : List Int) (k : Int) (A : Option Addr) (c : Nat) (w : World) (h : Rd w A s) (hb : N8 s) (hs : s.length = 128) (hf : formS s = false) :
    Calls Try.prog 34 #[.slice A 128 c, .int .i64 k] w fun e w' => e = .returned (.bool false) ∧ Below w.heap.size w w' := by
  have h10 := hb.gd 10
  have h11 := hb.gd 11
  obtain ⟨ad, rfl, c10⟩ := h.at_ 10 (by omega)
  obtain ⟨ad', e', c11⟩ := h.at_ 11 (by omega)
  cases e'
  replace c10 : w.cell? ⟨ad.block, ad.off + 10, none⟩ = _ := c10
  replace c11 : w.cell? ⟨ad.block, ad.off + 11, none⟩ = _ := c11
  have hf' : ¬ (gd s 11 ≤ 112 ∧ gd s 10 ≤ 3 ∧ ¬ (gd s 10 < 2 ∧ gd s 11 ≠ 112) ∧ ¬ (gd s 10 % 2 = 0 ∧ gd s 11 = 0)) := by
    intro ⟨a, b, c, d⟩
    rw [← Bool.not_eq_true] at hf
    apply hf
    simp only [formS, Bool.and_eq_true, decide_eq_true_iff, Bool.not_eq_true', Bool.and_eq_false_iff, decide_eq_false_iff_not]
    omega
  have a1 := and1 (gd s 10) h10.1
  have a2 := and2 (gd s 10) h10.1
  clear h hf hb
  generalize gd s 10 = x at *
  generalize gd s 11 = y at *
  by_cases h1 : y ≤ 112
  case neg =>
    clear a1 a2 hf'
    go_enter Try.func34, Try.ntmps34
    go_wp2
    go_ret
    exact ⟨rfl, Below.refl _ _⟩
  by_cases h2 : x ≤ 3
  case neg =>
    clear a1 a2 hf'
    go_enter Try.func34, Try.ntmps34
    go_wp2
    go_ret
    exact ⟨rfl, Below.refl _ _⟩
  replace a1 := a1 h2
  replace a2 := a2 h2
  by_cases h3 : x < 2
  · rw [decide_eq_true h3] at a2
    by_cases h4 : y = 112
    · subst h4
      exfalso
      omega
    · have hl : decide (y < 112) = true := decide_eq_true (by omega)
      clear a1 hf' h4
      go_enter Try.func34, Try.ntmps34
      go_wp2
      go_ret
      exact ⟨rfl, Below.refl _ _⟩
  · rw [decide_eq_false h3] at a2
    have h5 : x % 2 = 0 ∧ y = 0 := by omega
    obtain ⟨h5, rfl⟩ := h5
    rw [decide_eq_true h5] at a1
    clear hf' h5
    go_enter Try.func34, Try.ntmps34
    go_wp2
    go_ret
    exact ⟨rfl, Below.refl _ _⟩

end Go.Proofs.Ytfoojamabjpdpaa.Wal
