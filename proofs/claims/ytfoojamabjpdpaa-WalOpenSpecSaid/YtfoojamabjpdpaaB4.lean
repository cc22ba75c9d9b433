import Derived.Test.YtfoojamabjpdpaaB3
/- good tells whether a sector is good: one that has the form. -/
namespace Go.Proofs.Ytfoojamabjpdpaa.Wal
open Go.RowKit Go.Proofs.YtfoojamabjpdpaaW.PrintWords Go.Proofs.YtfoojamabjpdpaaW.PrintLast Go.Proofs.YtfoojamabjpdpaaW.PrintMore Go.Proofs.Ytfoojamabjpdpaa.PWalOpenSpec
attribute [local go_sem] max2_int min2_int max_two min_two max_three min_three max_four min_four
set_option linter.unusedVariables false
set_option linter.unusedSimpArgs false

set_option maxHeartbeats 4000000 in
set_option maxRecDepth 100000 in
theorem good_yes (s : List Int) (k : Int) (A : Option Addr) (c : Nat) (w : World) (h : Rd w A s) (hb : N8 s) (hs : s.length = 128) (hc : 128 ≤ c) (hf : formS s = true) (hk : 0 ≤ k ∧ k < 65536) :
    Calls Try.prog 34 #[.slice A 128 c, .int .i64 k] w fun e w' => e = .returned (.bool (goodS s k)) ∧ Below w.heap.size w w' := by
  have h10 := hb.gd 10
  have h11 := hb.gd 11
  have H := Aside0.mk h
  obtain ⟨ad, rfl, c10⟩ := h.at_ 10 (by omega)
  obtain ⟨ad', e', c11⟩ := h.at_ 11 (by omega)
  cases e'
  replace c10 : w.cell? ⟨ad.block, ad.off + 10, none⟩ = _ := c10
  replace c11 : w.cell? ⟨ad.block, ad.off + 11, none⟩ = _ := c11
  have hge := good_enc s k hs hb hk
  rw [hf, Bool.true_and] at hge
  have hn0 := num_bd (s.take 4) (hb.take 4)
  have hf' : gd s 11 ≤ 112 ∧ gd s 10 ≤ 3 ∧ ¬ (gd s 10 < 2 ∧ gd s 11 ≠ 112) ∧ ¬ (gd s 10 % 2 = 0 ∧ gd s 11 = 0) := by
    simp only [formS, Bool.and_eq_true, decide_eq_true_iff, Bool.not_eq_true', Bool.and_eq_false_iff, decide_eq_false_iff_not] at hf
    omega
  have a1 := and1 (gd s 10) h10.1 hf'.2.1
  have a2 := and2 (gd s 10) h10.1 hf'.2.1
  -- the generation
  have R4 := Aside0.mk (get_any (s.take 4) (some ad) c w (h.take 4 (by omega)) (hb.take 4) (by rw [List.length_take]; omega))
  have l4 : (s.take 4).length = 4 := by rw [List.length_take]; omega
  rw [l4] at R4
  clear h hf
  generalize num (s.take 4) = g at *
  obtain ⟨r, hr⟩ : ∃ r, goodS s k = r := ⟨_, rfl⟩
  rw [hr] at hge ⊢
  have HGE := Aside0.mk hge
  have HF := Aside0.mk hf'
  have HH := Aside0.mk (And.intro hn0 (And.intro h10 h11))
  clear hge hr l4 hn0
  generalize hx : gd s 10 = x at *
  generalize hy : gd s 11 = y at *
  have HX := Aside0.mk hx
  have HY := Aside0.mk hy
  clear hx hy
  have t1 : y ≤ 112 := hf'.1
  have t2 : x ≤ 3 := hf'.2.1
  have hcase : ((Go.bits .and .u8 x 2 == 0) = true ∧ decide (y < 112) = false ∧ (Go.bits .and .u8 x 1 == 0) = true ∧ (y == 0) = false) ∨ ((Go.bits .and .u8 x 2 == 0) = true ∧ decide (y < 112) = false ∧ (Go.bits .and .u8 x 1 == 0) = false ∧ True)
      ∨ ((Go.bits .and .u8 x 2 == 0) = false ∧ True ∧ (Go.bits .and .u8 x 1 == 0) = true ∧ (y == 0) = false) ∨ ((Go.bits .and .u8 x 2 == 0) = false ∧ True ∧ (Go.bits .and .u8 x 1 == 0) = false ∧ True) := by
    rw [a1, a2]
    by_cases h3 : x < 2
    · by_cases h4 : x % 2 = 0
      · exact .inl ⟨by simpa using h3, by simp; omega, by simpa using h4, by simp; omega⟩
      · exact .inr (.inl ⟨by simpa using h3, by simp; omega, by simpa using h4, trivial⟩)
    · by_cases h4 : x % 2 = 0
      · exact .inr (.inr (.inl ⟨by simp; omega, trivial, by simpa using h4, by simp; omega⟩))
      · exact .inr (.inr (.inr ⟨by simp; omega, trivial, by simpa using h4, trivial⟩))
  clear a1 a2 hf'
  have h10' := h10.1
  have h11' := h11.1
  clear h10 h11
  by_cases hg : g > 0
  case neg =>
    have hge := HGE.out
    obtain rfl : r = false := by rw [← hge]; simp [hg]
    have hg0 : decide (0 < g) = false := decide_eq_false hg
    clear hge hg
    rcases hcase with ⟨b1, b2, b3, b4⟩ | ⟨b1, b2, b3, b4⟩ | ⟨b1, b2, b3, b4⟩ | ⟨b1, b2, b3, b4⟩
    all_goals
      go_enter Try.func34, Try.ntmps34
      go_wp2_with (go_at_call 26; refine R4.out.mono ?_; rintro e w' ⟨rfl, rfl⟩)
      go_quiet (fail)
      go_wp2
      go_ret
      exact ⟨rfl, by repeat (first | exact Below.refl _ _ | apply pw_below_drewN)⟩
  -- what is made anew, and compared
  have hge := HGE.out
  rw [decide_eq_true hg, Bool.true_and] at hge
  have hg0 : decide (0 < g) = true := decide_eq_true hg
  obtain ⟨n, rfl⟩ : ∃ n : Nat, y = n := ⟨y.toNat, by omega⟩
  have lb : ((s.take (12 + n)).drop 12).length = n := by rw [List.length_drop, List.length_take]; omega
  have E1 : Aside0 (Calls Try.prog 30 #[.int .u64 g, .int .i64 k, .int .u8 x, .slice (some ⟨ad.block, ad.off + 12, none⟩) n (c - 12)] w.drew
      fun e w' => ∃ g', e = .returned (.slice (some ⟨g', 0, none⟩) 128 128) ∧ w.drew.heap.size ≤ g' ∧ Blk w' g' 71 (u8s (D6 g k x ((s.take (12 + n)).drop 12))) ∧ Below w.drew.heap.size w.drew w') := ⟨by
    have := encode_any g k x ((s.take (12 + n)).drop 12) (some (ad.add 12)) (c - 12) w.drew (H.out.part 12 (12 + n) (by omega)) ((hb.take _).drop _) (by rw [lb]; omega) (by omega) (by omega) (by omega)
    rw [lb] at this
    exact this⟩
  rw [Int.toNat_natCast] at hge
  have l6 := D6_length g k x ((s.take (12 + n)).drop 12) (by rw [lb]; omega)
  have n6 := D6_n8 g k x ((s.take (12 + n)).drop 12) ((hb.take _).drop _) (by rw [lb]; omega) (by omega)
  have e6 := D6_eq g k x ((s.take (12 + n)).drop 12) (by rw [lb]; omega)
  have E2 : Aside0 (∀ (w2 : World) (g2 : Nat), Below w.drew.heap.size w.drew w2 → Blk w2 g2 71 (u8s (D6 g k x ((s.take (12 + n)).drop 12))) →
      Calls Try.prog 28 #[.slice (some ad) 128 c, .slice (some ⟨g2, 0, none⟩) 128 128] w2 fun e w' => e = .returned (.bool r) ∧ w2 = w') := ⟨fun w2 g2 h1 h2 => by
    have hR := h2.rd 0 128 (by omega) (by omega) (by omega)
    rw [List.drop_zero, List.take_of_length_le (by omega)] at hR
    have := Equal_any s _ (some ad) (some ⟨g2, 0, none⟩) c 128 w2 (Kd.C_below (w := w.drew) H.out h1) hR hb n6
    rw [hs, l6, e6, hge] at this
    exact this⟩
  have hsl : ∀ W : World, (Instr.slice 25 (.slice (some ad) 128 c) (some (.int .i64 12)) (some (.int .i64 (12 + (n : Int)))) none).run Try.prog W = .ok (.slice (some (ad.add 12)) n (c - 12)) W := fun W => by
    have := slice_run (P := Try.prog) 25 5 Try.underlying25 (by kernel_rfl) (some ad) 128 c 12 (12 + n) (by omega) (by omega) hc W
    rw [if_neg (by omega), show ((12 + n : Nat) : Int) = 12 + (n : Int) by omega, show 12 + n - 12 = n by omega] at this
    exact this
  have hw12 : IntKind.i64.wrap (12 + (n : Int)) = 12 + (n : Int) := IntWalk.i64_in _ (by omega)
  have d10 : w.drew.cell? ⟨ad.block, ad.off + 10, none⟩ = some (.int .u8 x) := c10
  clear hge hg HGE lb l6 n6 e6 H HX HY HH HF hk hb hs
  rcases hcase with ⟨b1, b2, b3, b4⟩ | ⟨b1, b2, b3, b4⟩ | ⟨b1, b2, b3, b4⟩ | ⟨b1, b2, b3, b4⟩
  all_goals
    go_enter Try.func34, Try.ntmps34
    go_wp2_with (go_at_call 26; refine R4.out.mono ?_; rintro e w' ⟨rfl, rfl⟩)
    go_region_held3 (fun w' => w'.cell? ⟨ad.block, ad.off + 10, none⟩ = some (.int .u8 x)) (go_keep)
      (first
      | (go_at_call 30
         refine E1.out.mono ?_
         rintro e w2 ⟨g2, rfl, hg2, hB2, hb2⟩
         have k10 : w2.cell? ⟨ad.block, ad.off + 10, none⟩ = some (.int .u8 x) := pw_cell_below hb2 d10)
      | (go_at_call 28
         refine (E2.out _ _ hb2 hB2).mono ?_
         rintro e w3 ⟨rfl, rfl⟩))
    go_wp2
    go_ret
    exact ⟨rfl, ⟨hb2.os, hb2.tape, hb2.output, hb2.size, hb2.block⟩⟩

theorem good_any (s : List Int) (k : Int) (A : Option Addr) (c : Nat) (w : World) (h : Rd w A s) (hb : N8 s) (hs : s.length = 128) (hc : 128 ≤ c) (hk : 0 ≤ k ∧ k < 65536) :
    Calls Try.prog 34 #[.slice A 128 c, .int .i64 k] w fun e w' => e = .returned (.bool (goodS s k)) ∧ Below w.heap.size w w' := by
  rcases Bool.eq_false_or_eq_true (formS s) with hf | hf
  · exact good_yes s k A c w h hb hs hc hf hk
  · rw [goodS_of_form hf]
    exact good_no s k A c w h hb hs hf
end Go.Proofs.Ytfoojamabjpdpaa.Wal
