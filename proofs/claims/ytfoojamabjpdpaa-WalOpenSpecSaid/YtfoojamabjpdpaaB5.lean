import Derived.Test.YtfoojamabjpdpaaB3
/- The reference's Good tells the same. -/
namespace Go.Proofs.Ytfoojamabjpdpaa.Wal
open Go.RowKit Go.Proofs.YtfoojamabjpdpaaW.PrintWords Go.Proofs.YtfoojamabjpdpaaW.PrintLast Go.Proofs.YtfoojamabjpdpaaW.PrintMore Go.Proofs.Ytfoojamabjpdpaa.PWalOpenSpec
attribute [local go_sem] max2_int min2_int max_two min_two max_three min_three max_four min_four
set_option linter.unusedVariables false
set_option linter.unusedSimpArgs false

theorem quiet_left {P : Program} {f : FuncId} {args : Array Value} {w : World} {n : Nat} {v : Value}
    (h : Calls P f args (w.drewN n) fun e w' => e = .returned v ∧ w.drewN n = w') : Calls P f args (w.drewN n) fun e w'' => e = .returned v ∧ ∃ m, w'' = w.drewN m :=
  h.mono fun _ _ ⟨he, hm⟩ => ⟨he, n, hm.symm⟩

set_option maxHeartbeats 4000000 in
set_option maxRecDepth 100000 in
theorem Good_any (s : List Int) (k : Int) (A : Option Addr) (c : Nat) (w : World) (h : Rd w A s) (hb : N8 s) (hs : s.length = 128) (hc : 128 ≤ c) (hk : 0 ≤ k ∧ k < 65536) :
    Calls Try.prog 42 #[.slice A 128 c, .int .i64 k] w fun e w' => e = .returned (.bool (goodS s k)) ∧ Drawn0 w w' := by
  have h10 := hb.gd 10
  have h11 := hb.gd 11
  have H := Aside0.mk h
  obtain ⟨ad, rfl, c10⟩ := h.at_ 10 (by omega)
  obtain ⟨ad', e', c11⟩ := h.at_ 11 (by omega)
  cases e'
  replace c10 : w.cell? ⟨ad.block, ad.off + 10, none⟩ = _ := c10
  replace c11 : w.cell? ⟨ad.block, ad.off + 11, none⟩ = _ := c11
  have part : ∀ lo hi : Nat, lo ≤ hi → hi ≤ 128 → hi - lo ≤ 8 → ∀ n cc, Calls Try.prog 36 #[.slice (some (ad.add lo)) (hi - lo) cc] (w.drewN n) fun e w' => e = .returned (.int .u64 (num ((s.take hi).drop lo))) ∧ w.drewN n = w' := fun lo hi h1 h2 h3 n cc => by
    have hl : ((s.take hi).drop lo).length = hi - lo := by rw [List.length_drop, List.length_take]; omega
    have := Number_any ((s.take hi).drop lo) (some (ad.add lo)) cc (w.drewN n) (h.part lo hi (by omega)) ((hb.take _).drop _) (by omega)
    rwa [hl] at this
  have C1 : Aside0 (∀ n, Calls Try.prog 36 #[.slice (some ad) 4 c] (w.drewN n) fun e w' => e = .returned (.int .u64 (num (s.take 4))) ∧ w.drewN n = w') := ⟨fun n => part 0 4 (by omega) (by omega) (by omega) n c⟩
  have C2 : Aside0 (∀ n, Calls Try.prog 36 #[.slice (some ⟨ad.block, ad.off + 124, none⟩) 4 (c - 124)] (w.drewN n) fun e w' => e = .returned (.int .u64 (num (s.drop 124))) ∧ w.drewN n = w') := ⟨fun n => by
    have := part 124 128 (by omega) (by omega) (by omega) n (c - 124)
    rw [List.take_of_length_le (by omega)] at this
    exact this⟩
  have C3 : Aside0 (∀ n, Calls Try.prog 36 #[.slice (some ⟨ad.block, ad.off + 4, none⟩) 4 (c - 4)] (w.drewN n) fun e w' => e = .returned (.int .u64 (num ((s.take 8).drop 4))) ∧ w.drewN n = w') := ⟨fun n => part 4 8 (by omega) (by omega) (by omega) n (c - 4)⟩
  have C4 : Aside0 (∀ n, Calls Try.prog 36 #[.slice (some ⟨ad.block, ad.off + 8, none⟩) 2 (c - 8)] (w.drewN n) fun e w' => e = .returned (.int .u64 (num ((s.take 10).drop 8))) ∧ w.drewN n = w') := ⟨fun n => part 8 10 (by omega) (by omega) (by omega) n (c - 8)⟩
  have C5 : Aside0 (∀ n, Calls Try.prog 10 #[.slice (some ⟨ad.block, ad.off + 8, none⟩) 116 (c - 8)] (w.drewN n) fun e w' => e = .returned (.int .u32 (crc ((s.take 124).drop 8))) ∧ w.drewN n = w') := ⟨fun n => by
    have hl : ((s.take 124).drop 8).length = 116 := by rw [List.length_drop, List.length_take]; omega
    have := rSum_any ((s.take 124).drop 8) (some (ad.add 8)) (c - 8) (w.drewN n) (h.part 8 124 (by omega)) ((hb.take _).drop _) (by omega)
    rw [hl] at this
    exact this⟩
  have hg := num_lt (s.take 4) (hb.take 4) (k := 4) (by rw [List.length_take]; omega)
  have hg2 := num_lt (s.drop 124) (hb.drop 124) (k := 4) (by rw [List.length_drop]; omega)
  have hm := num_lt ((s.take 8).drop 4) ((hb.take 8).drop 4) (k := 4) (by rw [List.length_drop, List.length_take]; omega)
  have hn := num_lt ((s.take 10).drop 8) ((hb.take 10).drop 8) (k := 2) (by rw [List.length_drop, List.length_take]; omega)
  have hcr := crc_bd ((s.take 124).drop 8)
  obtain ⟨r, hr⟩ : ∃ r, goodS s k = r := ⟨_, rfl⟩
  have HR : Aside0 ((decide (num (s.take 4) ≠ 0) && decide (num (s.take 4) = num (s.drop 124)) && decide (num ((s.take 8).drop 4) = crc ((s.take 124).drop 8)) && decide (num ((s.take 10).drop 8) = k) &&
     (decide (gd s 11 ≤ 112) && decide (gd s 10 ≤ 3) && !(decide (gd s 10 < 2) && decide (gd s 11 ≠ 112)) && !(decide (gd s 10 % 2 = 0) && decide (gd s 11 = 0))) && zeroS s) = r) := ⟨hr⟩
  have HZ := Aside0.mk (zeroS_iff s)
  rw [hr]
  clear part h hr
  generalize num (s.take 4) = g at *
  generalize num (s.drop 124) = g2 at *
  generalize num ((s.take 8).drop 4) = m at *
  generalize num ((s.take 10).drop 8) = nn at *
  generalize crc ((s.take 124).drop 8) = cr at *
  generalize hx : gd s 10 = x at *
  generalize hy : gd s 11 = y at *
  have HX := Aside0.mk hx
  have HY := Aside0.mk hy
  clear hx hy
  replace hg : 0 ≤ g ∧ g < 4294967296 := hg
  replace hg2 : 0 ≤ g2 ∧ g2 < 4294967296 := hg2
  replace hm : 0 ≤ m ∧ m < 4294967296 := hm
  replace hn : 0 ≤ nn ∧ nn < 65536 := hn
  obtain ⟨hg, hg'⟩ := hg
  obtain ⟨hg2, hg2'⟩ := hg2
  obtain ⟨hm, hm'⟩ := hm
  obtain ⟨hn, hn'⟩ := hn
  obtain ⟨hcr, hcr'⟩ := hcr
  obtain ⟨hk, hk'⟩ := hk
  obtain ⟨h10, h10'⟩ := h10
  obtain ⟨h11, h11'⟩ := h11
  by_cases q1 : g = 0
  case pos =>
    obtain rfl : r = false := by rw [← HR.out]; simp [q1]
    have b1 : (g == 0) = true := by simpa using q1
    clear q1
    go_enter Try.func42, Try.ntmps42
    go_wp2
    go_quiet ((first | (go_at_call 36; first | (with_reducible exact quiet_left (C1.out _)) | (with_reducible exact quiet_left (C2.out _)) | (with_reducible exact quiet_left (C3.out _)) | (with_reducible exact quiet_left (C4.out _))) | (go_at_call 10; exact quiet_left (C5.out _))))
    go_wp2
    go_ret
    exact ⟨rfl, by repeat (first | exact Drawn0.refl _ | apply Drawn0.step)⟩
  have b1 : (g == 0) = false := by simpa using q1
  by_cases q2 : ¬ g = g2
  case pos =>
    obtain rfl : r = false := by rw [← HR.out]; simp [q2]
    have b2 : (g != g2) = true := by simpa using q2
    clear q2
    go_enter Try.func42, Try.ntmps42
    go_wp2
    go_quiet ((first | (go_at_call 36; first | (with_reducible exact quiet_left (C1.out _)) | (with_reducible exact quiet_left (C2.out _)) | (with_reducible exact quiet_left (C3.out _)) | (with_reducible exact quiet_left (C4.out _))) | (go_at_call 10; exact quiet_left (C5.out _))))
    go_wp2
    go_ret
    exact ⟨rfl, by repeat (first | exact Drawn0.refl _ | apply Drawn0.step)⟩
  have b2 : (g != g2) = false := by simpa using q2
  by_cases q3 : ¬ m = cr
  case pos =>
    obtain rfl : r = false := by rw [← HR.out]; simp [q3]
    have b3 : (m != cr) = true := by simpa using q3
    clear q3
    go_enter Try.func42, Try.ntmps42
    go_wp2
    go_quiet ((first | (go_at_call 36; first | (with_reducible exact quiet_left (C1.out _)) | (with_reducible exact quiet_left (C2.out _)) | (with_reducible exact quiet_left (C3.out _)) | (with_reducible exact quiet_left (C4.out _))) | (go_at_call 10; exact quiet_left (C5.out _))))
    go_wp2
    go_ret
    exact ⟨rfl, by repeat (first | exact Drawn0.refl _ | apply Drawn0.step)⟩
  have b3 : (m != cr) = false := by simpa using q3
  by_cases q4 : ¬ nn = k
  case pos =>
    obtain rfl : r = false := by rw [← HR.out]; simp [q4]
    have b4 : (nn != k) = true := by simpa using q4
    clear q4
    go_enter Try.func42, Try.ntmps42
    go_wp2
    go_quiet ((first | (go_at_call 36; first | (with_reducible exact quiet_left (C1.out _)) | (with_reducible exact quiet_left (C2.out _)) | (with_reducible exact quiet_left (C3.out _)) | (with_reducible exact quiet_left (C4.out _))) | (go_at_call 10; exact quiet_left (C5.out _))))
    go_wp2
    go_ret
    exact ⟨rfl, by repeat (first | exact Drawn0.refl _ | apply Drawn0.step)⟩
  have b4 : (nn != k) = false := by simpa using q4
  by_cases q5 : 3 < x
  case pos =>
    obtain rfl : r = false := by rw [← HR.out]; simp [show ¬ x ≤ 3 by omega]
    have b5 : decide (3 < x) = true := by simpa using q5
    clear q5
    go_enter Try.func42, Try.ntmps42
    go_wp2
    go_quiet ((first | (go_at_call 36; first | (with_reducible exact quiet_left (C1.out _)) | (with_reducible exact quiet_left (C2.out _)) | (with_reducible exact quiet_left (C3.out _)) | (with_reducible exact quiet_left (C4.out _))) | (go_at_call 10; exact quiet_left (C5.out _))))
    go_wp2
    go_ret
    exact ⟨rfl, by repeat (first | exact Drawn0.refl _ | apply Drawn0.step)⟩
  have b5 : decide (3 < x) = false := by simpa using q5
  by_cases q6 : 112 < y
  case pos =>
    obtain rfl : r = false := by rw [← HR.out]; simp [show ¬ y ≤ 112 by omega]
    have b6 : decide (112 < y) = true := by simpa using q6
    clear q6
    go_enter Try.func42, Try.ntmps42
    go_wp2
    go_quiet ((first | (go_at_call 36; first | (with_reducible exact quiet_left (C1.out _)) | (with_reducible exact quiet_left (C2.out _)) | (with_reducible exact quiet_left (C3.out _)) | (with_reducible exact quiet_left (C4.out _))) | (go_at_call 10; exact quiet_left (C5.out _))))
    go_wp2
    go_ret
    exact ⟨rfl, by repeat (first | exact Drawn0.refl _ | apply Drawn0.step)⟩
  have b6 : decide (112 < y) = false := by simpa using q6
  by_cases q7 : x < 2 ∧ ¬ y = 112
  case pos =>
    obtain rfl : r = false := by rw [← HR.out]; simp [q7.1, q7.2]
    have b7 : decide (x < 2) = true := by simpa using q7.1
    have b8 : (y != 112) = true := by simpa using q7.2
    clear q7
    go_enter Try.func42, Try.ntmps42
    go_wp2
    go_quiet ((first | (go_at_call 36; first | (with_reducible exact quiet_left (C1.out _)) | (with_reducible exact quiet_left (C2.out _)) | (with_reducible exact quiet_left (C3.out _)) | (with_reducible exact quiet_left (C4.out _))) | (go_at_call 10; exact quiet_left (C5.out _))))
    go_wp2
    go_ret
    exact ⟨rfl, by repeat (first | exact Drawn0.refl _ | apply Drawn0.step)⟩
  by_cases q8 : x % 2 = 0 ∧ y = 0
  case pos =>
    obtain rfl : r = false := by rw [← HR.out]; simp [q8.1, q8.2]
    have b7 : decide (x < 2) = false := by simp; omega
    have b9 : (x % 2 == 0) = true := by simpa using q8.1
    have b10 : (y == 0) = true := by simpa using q8.2
    clear q8
    go_enter Try.func42, Try.ntmps42
    go_wp2
    go_quiet ((first | (go_at_call 36; first | (with_reducible exact quiet_left (C1.out _)) | (with_reducible exact quiet_left (C2.out _)) | (with_reducible exact quiet_left (C3.out _)) | (with_reducible exact quiet_left (C4.out _))) | (go_at_call 10; exact quiet_left (C5.out _))))
    go_wp2
    go_ret
    exact ⟨rfl, by repeat (first | exact Drawn0.refl _ | apply Drawn0.step)⟩
  have hcase : (decide (x < 2) = true ∧ (y != 112) = false ∧ (x % 2 == 0) = true ∧ (y == 0) = false) ∨ (decide (x < 2) = true ∧ (y != 112) = false ∧ (x % 2 == 0) = false ∧ True)
      ∨ (decide (x < 2) = false ∧ True ∧ (x % 2 == 0) = true ∧ (y == 0) = false) ∨ (decide (x < 2) = false ∧ True ∧ (x % 2 == 0) = false ∧ True) := by
    by_cases h3 : x < 2
    · by_cases h4 : x % 2 = 0
      · exact .inl ⟨by simpa using h3, by simp; omega, by simpa using h4, by simp; omega⟩
      · exact .inr (.inl ⟨by simpa using h3, by simp; omega, by simpa using h4, trivial⟩)
    · by_cases h4 : x % 2 = 0
      · exact .inr (.inr (.inl ⟨by simp; omega, trivial, by simpa using h4, by simp; omega⟩))
      · exact .inr (.inr (.inr ⟨by simp; omega, trivial, by simpa using h4, trivial⟩))
  have HRZ : Aside0 (zeroS s = r) := ⟨by
    rw [← HR.out, decide_eq_true q1, decide_eq_true (show g = g2 by omega), decide_eq_true (show m = cr by omega), decide_eq_true (show nn = k by omega), decide_eq_true (show y ≤ 112 by omega), decide_eq_true (show x ≤ 3 by omega)]
    have e1 : (decide (x < 2) && decide (y ≠ 112)) = false := by
      rw [← Bool.not_eq_true]
      simp only [Bool.and_eq_true, decide_eq_true_iff]
      exact q7
    have e2 : (decide (x % 2 = 0) && decide (y = 0)) = false := by
      rw [← Bool.not_eq_true]
      simp only [Bool.and_eq_true, decide_eq_true_iff]
      exact q8
    rw [e1, e2]
    simp⟩
  obtain ⟨n, rfl⟩ : ∃ n : Nat, y = n := ⟨y.toNat, by omega⟩
  have hn112 : n ≤ 112 := by omega
  clear q1 q2 q3 q4 q5 q6 q7 q8 HR
  rcases hcase with ⟨b7, b8, b9, b10⟩ | ⟨b7, b8, b9, b10⟩ | ⟨b7, b8, b9, b10⟩ | ⟨b7, b8, b9, b10⟩
  all_goals
    go_enter Try.func42, Try.ntmps42
    go_wp2
    go_quiet ((first | (go_at_call 36; first | (with_reducible exact quiet_left (C1.out _)) | (with_reducible exact quiet_left (C2.out _)) | (with_reducible exact quiet_left (C3.out _)) | (with_reducible exact quiet_left (C4.out _))) | (go_at_call 10; exact quiet_left (C5.out _))))
    go_wp2
    go_loop [4, 6] (fun _ v6 => ∃ i : Nat, 12 + n ≤ i ∧ i ≤ 124 ∧ v6 = .int .i64 i ∧ Aside0 (∀ j, 12 + n ≤ j → j < i → gd s j = 0)) (fun _ v6 => 124 - (intOf v6).toNat)
    case atStart => exact ⟨12 + n, Nat.le_refl _, by omega, by go_num, ⟨fun j h1 h2 => by omega⟩⟩
    case round =>
      obtain ⟨i, hi1, hi2, rfl, HA⟩ := hrel
      by_cases hlt : i < 124
      · obtain ⟨ad'', e'', hx⟩ := H.out.at_ i (by omega)
        cases e''
        by_cases hz : gd s i = 0
        · have bz : (gd s i != 0) = false := by simpa using hz
          have HZI := Aside0.mk hz
          clear hz
          go_wp2
          go_round
          case rel => exact ⟨i + 1, by omega, by omega, by go_num, ⟨fun j h1 h2 => by
            by_cases hj : j = i
            · rw [hj]; exact HZI.out
            · exact HA.out j h1 (by omega)⟩⟩
          case measure => simp [intOf]; omega
        · have bz : (gd s i != 0) = true := by simpa using hz
          obtain rfl : r = false := by
            rw [← HRZ.out, ← Bool.not_eq_true, HZ.out]
            exact fun hall => hz (hall i (by rw [Int.toNat_natCast]; omega) hlt)
          have HZI := Aside0.mk hz
          clear hz
          go_wp2
          go_ret
          exact ⟨rfl, by repeat (first | exact Drawn0.refl _ | apply Drawn0.step)⟩
      · obtain rfl : r = true := by
          rw [← HRZ.out, HZ.out]
          exact fun j h1 h2 => HA.out j (by rw [Int.toNat_natCast] at h1; omega) (by omega)
        go_wp2
        go_ret
        exact ⟨rfl, by repeat (first | exact Drawn0.refl _ | apply Drawn0.step)⟩
end Go.Proofs.Ytfoojamabjpdpaa.Wal
