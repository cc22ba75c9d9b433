import Derived.Test.YtfoojamabjpdpaaA2
/- Contracts of the functions that read rows of rows: the reference's Check of a disk, SameRecords, Same, few. -/
namespace Go.Proofs.Ytfoojamabjpdpaa.Wal
open Go.RowKit Go.Proofs.YtfoojamabjpdpaaW.PrintWords Go.Proofs.YtfoojamabjpdpaaW.PrintLast Go.Proofs.YtfoojamabjpdpaaW.PrintMore Go.Proofs.Ytfoojamabjpdpaa.PWalOpenSpec
attribute [local go_sem] max2_int min2_int max_two min_two max_three min_three max_four min_four
set_option linter.unusedVariables false
set_option linter.unusedSimpArgs false

set_option maxHeartbeats 1000000 in
set_option maxRecDepth 100000 in
theorem rCheck_any (L : List (List Int)) (left tear : Int) (st : Bool) (A : Option Addr) (c : Nat) (w : World) (hr : Ls w A L) (hlen : L.length ≤ 140737488351232) :
    Calls Try.prog 17 #[.agg #[.slice A L.length c, .int .i64 left, .int .i64 tear, .bool st]] w fun e w' => e = .returned (.int .i64 (ckD L left tear st)) ∧ Below w.heap.size w w' := by
  have HR := Aside0.mk hr
  clear hr
  by_cases h1 : 1 ≤ L.length
  case neg =>
    have e : ckD L left tear st = 1 := by simp [ckD, okD, h1]
    rw [e]
    clear e
    go_enter Try.func17, Try.ntmps17
    go_wp2
    go_ret
    exact ⟨rfl, (Below.refl _ _).alloc (Nat.le_refl _) _⟩
  by_cases h2 : L.length ≤ 4096
  case neg =>
    have e : ckD L left tear st = 1 := by simp [ckD, okD, h2]
    rw [e]
    clear e
    go_enter Try.func17, Try.ntmps17
    go_wp2
    go_ret
    exact ⟨rfl, (Below.refl _ _).alloc (Nat.le_refl _) _⟩
  by_cases h3 : -1 ≤ left
  case neg =>
    have e : ckD L left tear st = 1 := by simp [ckD, okD, h3]
    rw [e]
    clear e
    go_enter Try.func17, Try.ntmps17
    go_wp2
    go_ret
    exact ⟨rfl, (Below.refl _ _).alloc (Nat.le_refl _) _⟩
  by_cases h4 : 0 ≤ tear
  case neg =>
    have e : ckD L left tear st = 1 := by simp [ckD, okD, h4]
    rw [e]
    clear e
    go_enter Try.func17, Try.ntmps17
    go_wp2
    go_ret
    exact ⟨rfl, (Below.refl _ _).alloc (Nat.le_refl _) _⟩
  by_cases h5 : tear ≤ 128
  case neg =>
    have e : ckD L left tear st = 1 := by simp [ckD, okD, h5]
    rw [e]
    clear e
    go_enter Try.func17, Try.ntmps17
    go_wp2
    go_ret
    exact ⟨rfl, (Below.refl _ _).alloc (Nat.le_refl _) _⟩
  by_cases h6 : (!st || left == 0) = true
  case neg =>
    have e : ckD L left tear st = 1 := by simp only [Bool.not_eq_true] at h6; simp [ckD, okD, h6]
    rw [e]
    clear e
    obtain rfl : st = true := by cases st <;> simp_all
    have hl : (left != 0) = true := by simpa using h6
    clear h6
    go_enter Try.func17, Try.ntmps17
    go_wp2
    go_ret
    exact ⟨rfl, (Below.refl _ _).alloc (Nat.le_refl _) _⟩
  obtain ⟨r, er⟩ : ∃ r : Int, ckD L left tear st = r := ⟨_, rfl⟩
  have R0 : Aside0 (all128 L = true → r = 0) := ⟨fun h7 => by rw [← er]; simp only [ckD, okD, h6, h7]; simp [h1, h2, h3, h4, h5]⟩
  have R1 : Aside0 (all128 L = false → r = 1) := ⟨fun h7 => by rw [← er]; simp only [ckD, okD, h6, h7]; simp⟩
  rw [er]
  clear er
  have hb : Below w.heap.size w (w.alloc (.cells #[.slice A L.length c, .int .i64 left, .int .i64 tear, .bool st] 24)) := (Below.refl _ _).alloc (Nat.le_refl _) _
  have HR' : Aside0 (Ls _ A L) := ⟨Kd.C_below HR.out hb⟩
  have HB := Aside0.mk hb
  clear hb
  rcases Bool.eq_false_or_eq_true st with h8 | h8
  all_goals
    subst h8
    first
    | (have hl : (left != 0) = false := by simpa using h6)
    | skip
    clear h6
    go_enter Try.func17, Try.ntmps17
    go_wp2
    go_loop [2, 3] (fun _ v3 => ∃ k : Nat, k ≤ L.length ∧ v3 = .int .i64 k ∧ Aside0 (∀ i, i < k → (gl L i).length = 128)) (fun _ v3 => L.length - (intOf v3).toNat)
    case atStart => exact ⟨0, Nat.zero_le _, rfl, ⟨fun i hi => by omega⟩⟩
    case round =>
      obtain ⟨k, hk, rfl, HA⟩ := hrel
      by_cases hlt : k < L.length
      · obtain ⟨ad, B, cb, e, hx, _, _⟩ := HR'.out.at_ k hlt
        cases e
        by_cases h128 : (gl L k).length = 128
        · have ht : (((gl L k).length : Int) != 128) = false := by simp [h128]
          have H128 := Aside0.mk h128
          clear h128
          go_wp2
          go_round
          case rel => exact ⟨k + 1, by omega, by go_num, ⟨fun i hi => by
            by_cases hik : i = k
            · rw [hik]; exact H128.out
            · exact HA.out i (by omega)⟩⟩
          case measure => simp [intOf]; omega
        · have ht : (((gl L k).length : Int) != 128) = true := by simp; omega
          have H128 := Aside0.mk h128
          clear h128
          go_wp2
          go_ret
          have : all128 L = false := by
            rw [← Bool.not_eq_true, all128_iff]
            exact fun h => H128.out (h k hlt)
          rw [R1.out this]
          exact ⟨rfl, HB.out⟩
      · go_wp2
        go_ret
        have : all128 L = true := by
          rw [all128_iff]
          exact fun i hi => HA.out i (by omega)
        rw [R0.out this]
        exact ⟨rfl, HB.out⟩
end Go.Proofs.Ytfoojamabjpdpaa.Wal
