import Derived.Test.YtfoojamabjpdpaaA
/- Contracts of the functions that read rows of rows: SameRecords, few, the two Checks of a disk. -/
namespace Go.Proofs.Ytfoojamabjpdpaa.Wal
open Go.RowKit Go.Proofs.YtfoojamabjpdpaaW.PrintWords Go.Proofs.YtfoojamabjpdpaaW.PrintLast Go.Proofs.YtfoojamabjpdpaaW.PrintMore Go.Proofs.Ytfoojamabjpdpaa.PWalOpenSpec
attribute [local go_sem] max2_int min2_int max_two min_two max_three min_three max_four min_four
set_option linter.unusedVariables false
set_option linter.unusedSimpArgs false

/-- A row of rows of bytes that is read. -/
abbrev Ls (w : World) (A : Option Addr) (L : List (List Int)) : Prop := Kd.C (Kd.slice 5 (Kd.int .u8)) w A L.length L
theorem Ls.at_ {w : World} {A : Option Addr} {L : List (List Int)} (h : Ls w A L) (k : Nat) (hk : k < L.length) :
    ∃ ad B c, A = some ad ∧ w.cell? (ad.add k) = some (.slice B (gl L k).length c) ∧ (gl L k).length ≤ c ∧ Rd w B (gl L k) := by
  obtain ⟨ad, B, c, e, hx, hc, hr⟩ := at_L1 h k (by omega) (by omega)
  exact ⟨ad, B, c, e, by simpa [rd_L1, gl] using hx, by simpa [rd_L1, gl] using hc, by simpa [rd_L1, gl] using hr⟩

set_option maxRecDepth 100000 in
/-- slices.IndexFunc at disk.Check's closure. -/
theorem IndexFunc31 (L : List (List Int)) (A : Option Addr) (c : Nat) (w : World) (hr : Ls w A L) (hlen : L.length ≤ 140737488351232) :
    Calls Try.prog 41 #[.slice A L.length c, .func (.func 31) #[] #[]] w fun e w' => (∃ k : Int, e = .returned (.int .i64 k) ∧ (decide (k ≥ 0)) = !(all128 L)) ∧ w = w' := by
  have HR := Aside0.mk hr
  clear hr
  go_enter Try.func41, Try.ntmps41
  go_wp2
  go_loop [4, 5, 8] (fun _ _ v8 => ∃ k : Nat, k ≤ L.length ∧ v8 = .int .i64 k ∧ Aside0 (∀ i, i < k → (gl L i).length = 128)) (fun _ _ v8 => L.length - (intOf v8).toNat)
  case atStart => exact ⟨0, Nat.zero_le _, rfl, ⟨fun i hi => by omega⟩⟩
  case round =>
    obtain ⟨k, hk, rfl, HA⟩ := hrel
    by_cases hlt : k < L.length
    · obtain ⟨ad, B, cb, e, hx, _, _⟩ := HR.out.at_ k hlt
      cases e
      by_cases h128 : (gl L k).length = 128
      · have ht : (((gl L k).length : Int) != 128) = false := by simp [h128]
        have H128 := Aside0.mk h128
        clear h128
        go_wp2
        go_round
        case rel => exact ⟨k + 1, by omega, by go_num, ⟨fun i hi => by
          by_cases hik : i = k
          · rw [hik]; exact H128.out
          · exact HA.out i (by omega)⟩⟩
        case measure => simp [intOf]; omega
      · have ht : (((gl L k).length : Int) != 128) = true := by simp; omega
        have H128 := Aside0.mk h128
        clear h128
        go_wp2
        go_ret
        refine ⟨⟨k, rfl, ?_⟩, rfl⟩
        have : all128 L = false := by
          rw [← Bool.not_eq_true, all128_iff]
          exact fun h => H128.out (h k hlt)
        rw [this]; simp
    · go_wp2
      go_ret
      refine ⟨⟨-1, rfl, ?_⟩, rfl⟩
      have : all128 L = true := by
        rw [all128_iff]
        exact fun i hi => HA.out i (by omega)
      rw [this]; simp

set_option maxRecDepth 100000 in
theorem ContainsFunc31 (L : List (List Int)) (A : Option Addr) (c : Nat) (w : World) (hr : Ls w A L) (hlen : L.length ≤ 140737488351232) :
    Calls Try.prog 32 #[.slice A L.length c, .func (.func 31) #[] #[]] w fun e w' => e = .returned (.bool (!(all128 L))) ∧ w = w' := by
  have HR := Aside0.mk hr
  clear hr
  go_enter Try.func32, Try.ntmps32
  go_wp2_with (go_at_call 41; refine (IndexFunc31 L A c _ HR.out hlen).mono ?_; rintro e w' ⟨⟨k, rfl, hk⟩, rfl⟩)
  go_ret
  exact ⟨by rw [← hk]; rfl, rfl⟩

set_option maxHeartbeats 1000000 in
set_option maxRecDepth 100000 in
theorem Check_any (L : List (List Int)) (left tear : Int) (st : Bool) (A : Option Addr) (c : Nat) (w : World) (hr : Ls w A L) (hlen : L.length ≤ 140737488351232) :
    Calls Try.prog 15 #[.agg #[.slice A L.length c, .int .i64 left, .int .i64 tear, .bool st]] w fun e w' => e = .returned (.int .i64 (ckD L left tear st)) ∧ Below w.heap.size w w' := by
  have HR := Aside0.mk hr
  clear hr
  by_cases h1 : 1 ≤ L.length
  case neg =>
    have e : ckD L left tear st = 1 := by simp [ckD, okD, h1]
    rw [e]
    have h1' : L.length < 1 := by omega
    clear h1 e
    go_enter Try.func15, Try.ntmps15
    go_wp2
    go_ret
    exact ⟨rfl, (Below.refl _ _).alloc (Nat.le_refl _) _⟩
  by_cases h2 : L.length ≤ 4096
  case neg =>
    have e : ckD L left tear st = 1 := by simp [ckD, okD, h2]
    rw [e]
    clear e
    go_enter Try.func15, Try.ntmps15
    go_wp2
    go_ret
    exact ⟨rfl, (Below.refl _ _).alloc (Nat.le_refl _) _⟩
  by_cases h3 : -1 ≤ left
  case neg =>
    have e : ckD L left tear st = 1 := by simp [ckD, okD, h3]
    rw [e]
    clear e
    go_enter Try.func15, Try.ntmps15
    go_wp2
    go_ret
    exact ⟨rfl, (Below.refl _ _).alloc (Nat.le_refl _) _⟩
  by_cases h4 : 0 ≤ tear
  case neg =>
    have e : ckD L left tear st = 1 := by simp [ckD, okD, h4]
    rw [e]
    clear e
    go_enter Try.func15, Try.ntmps15
    go_wp2
    go_ret
    exact ⟨rfl, (Below.refl _ _).alloc (Nat.le_refl _) _⟩
  by_cases h5 : tear ≤ 128
  case neg =>
    have e : ckD L left tear st = 1 := by simp [ckD, okD, h5]
    rw [e]
    clear e
    go_enter Try.func15, Try.ntmps15
    go_wp2
    go_ret
    exact ⟨rfl, (Below.refl _ _).alloc (Nat.le_refl _) _⟩
  by_cases h6 : (!st || left == 0) = true
  case neg =>
    have e : ckD L left tear st = 1 := by simp only [Bool.not_eq_true] at h6; simp [ckD, okD, h6]
    rw [e]
    clear e
    obtain rfl : st = true := by cases st <;> simp_all
    have hl : (left != 0) = true := by simpa using h6
    clear h6
    go_enter Try.func15, Try.ntmps15
    go_wp2
    go_ret
    exact ⟨rfl, (Below.refl _ _).alloc (Nat.le_refl _) _⟩
  have hb : Below w.heap.size w (w.alloc (.cells #[.slice A L.length c, .int .i64 left, .int .i64 tear, .bool st] 24)) := (Below.refl _ _).alloc (Nat.le_refl _) _
  have HR' : Aside0 (Ls _ A L) := ⟨Kd.C_below HR.out hb⟩
  have HL' := Aside0.mk hlen
  have HB := Aside0.mk hb
  clear hb hlen
  rcases Bool.eq_false_or_eq_true (all128 L) with h7 | h7
  case inl =>
    have e : ckD L left tear st = 0 := by simp only [ckD, okD, h6, h7]; simp [h1, h2, h3, h4, h5]
    rw [e]
    clear e
    have H7 := Aside0.mk h7
    clear h7
    rcases Bool.eq_false_or_eq_true st with h8 | h8
    · subst h8
      have hl : (left != 0) = false := by simpa using h6
      clear h6
      go_enter Try.func15, Try.ntmps15
      go_wp2_with (first | (go_at_call 32; refine (ContainsFunc31 L A c _ HR'.out HL'.out).mono ?_; rw [H7.out]; rintro e w' ⟨rfl, rfl⟩) | go_in)
      go_ret
      exact ⟨rfl, HB.out⟩
    · subst h8
      clear h6
      go_enter Try.func15, Try.ntmps15
      go_wp2_with (first | (go_at_call 32; refine (ContainsFunc31 L A c _ HR'.out HL'.out).mono ?_; rw [H7.out]; rintro e w' ⟨rfl, rfl⟩) | go_in)
      go_ret
      exact ⟨rfl, HB.out⟩
  case inr =>
    have e : ckD L left tear st = 1 := by simp only [ckD, okD, h6, h7]; simp
    rw [e]
    clear e
    have H7 := Aside0.mk h7
    clear h7
    rcases Bool.eq_false_or_eq_true st with h8 | h8
    · subst h8
      have hl : (left != 0) = false := by simpa using h6
      clear h6
      go_enter Try.func15, Try.ntmps15
      go_wp2_with (first | (go_at_call 32; refine (ContainsFunc31 L A c _ HR'.out HL'.out).mono ?_; rw [H7.out]; rintro e w' ⟨rfl, rfl⟩) | go_in)
      go_ret
      exact ⟨rfl, HB.out⟩
    · subst h8
      clear h6
      go_enter Try.func15, Try.ntmps15
      go_wp2_with (first | (go_at_call 32; refine (ContainsFunc31 L A c _ HR'.out HL'.out).mono ?_; rw [H7.out]; rintro e w' ⟨rfl, rfl⟩) | go_in)
      go_ret
      exact ⟨rfl, HB.out⟩
end Go.Proofs.Ytfoojamabjpdpaa.Wal
