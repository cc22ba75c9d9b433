import Derived.Test.YtfoojamabjpdpaaPWalOpenSpecx0
import Derived.Test.YtfoojamabjpdpaaS
/- Contracts of the small functions: Sum, get, Number and their like. -/
namespace Go.Proofs.Ytfoojamabjpdpaa.Wal
open Go.RowKit Go.Proofs.YtfoojamabjpdpaaW.PrintWords Go.Proofs.YtfoojamabjpdpaaW.PrintLast Go.Proofs.YtfoojamabjpdpaaW.PrintMore Go.Proofs.Ytfoojamabjpdpaa.PWalOpenSpec
attribute [local go_sem] max2_int min2_int max_two min_two max_three min_three max_four min_four
set_option linter.unusedVariables false
set_option linter.unusedSimpArgs false

/-- A row of bytes that is read. -/
abbrev Rd (w : World) (A : Option Addr) (l : List Int) : Prop := Kd.C (Kd.int .u8) w A l.length l
theorem Rd.at_ {w : World} {A : Option Addr} {l : List Int} (h : Rd w A l) (k : Nat) (hk : k < l.length) : ∃ ad, A = some ad ∧ w.cell? (ad.add k) = some (.int .u8 (gd l k)) := by
  obtain ⟨ad, e, hx⟩ := Kd.at_int h k (by omega) (by omega)
  refine ⟨ad, e, ?_⟩
  simpa [rd, gd] using hx

set_option maxRecDepth 100000 in
theorem get_any (l : List Int) (A : Option Addr) (c : Nat) (w : World) (hr : Rd w A l) (hb : N8 l) (hlen : l.length ≤ 8) :
    Calls Try.prog 26 #[.slice A l.length c] w fun e w' => e = .returned (.int .u64 (num l)) ∧ w = w' := by
  have HR := Aside0.mk hr
  clear hr
  go_enter Try.func26, Try.ntmps26
  go_wp2
  go_loop [2, 7] (fun v2 v7 => ∃ k : Nat, k ≤ l.length ∧ v7 = .int .i64 k ∧ v2 = .int .u64 (num (l.take k))) (fun _ v7 => l.length - (intOf v7).toNat)
  case atStart => exact ⟨0, Nat.zero_le _, rfl, rfl⟩
  case round =>
    obtain ⟨k, hk, rfl, rfl⟩ := hrel
    by_cases hlt : k < l.length
    · have HS : Hid (Go.bits .or .u64 (IntKind.u64.wrap (num (l.take k) * 256)) (IntKind.u64.wrap (gd l k)) = num (l.take (k + 1))) := by
        have hn := num_lt (l.take k) (hb.take k) (k := 7) (by rw [List.length_take]; omega)
        show _ = _
        rw [or_byte _ _ ⟨hn.1, by omega⟩ (hb.gd k), take_gd l k hlt, num_snoc]
      obtain ⟨ad, e, hx⟩ := HR.out.at_ k hlt
      cases e
      go_wp2
      go_round
      case rel => exact ⟨k + 1, by omega, by go_num, by rw [← HS.out]⟩
      case measure => simp [intOf]; omega
    · go_wp2
      go_ret
      have : k = l.length := by omega
      subst this
      exact ⟨by rw [List.take_length]; rfl, rfl⟩

set_option maxRecDepth 100000 in
theorem Number_any (l : List Int) (A : Option Addr) (c : Nat) (w : World) (hr : Rd w A l) (hb : N8 l) (hlen : l.length ≤ 8) :
    Calls Try.prog 36 #[.slice A l.length c] w fun e w' => e = .returned (.int .u64 (num l)) ∧ w = w' := by
  have HR := Aside0.mk hr
  clear hr
  go_enter Try.func36, Try.ntmps36
  go_wp2
  go_loop [3, 4] (fun v2 v7 => ∃ k : Nat, k ≤ l.length ∧ v7 = .int .i64 k ∧ v2 = .int .u64 (num (l.take k))) (fun _ v7 => l.length - (intOf v7).toNat)
  case atStart => exact ⟨0, Nat.zero_le _, rfl, rfl⟩
  case round =>
    obtain ⟨k, hk, rfl, rfl⟩ := hrel
    by_cases hlt : k < l.length
    · have HS : Hid (IntKind.u64.wrap (IntKind.u64.wrap (256 * num (l.take k)) + IntKind.u64.wrap (gd l k)) = num (l.take (k + 1))) := by
        have hn := num_lt (l.take k) (hb.take k) (k := 7) (by rw [List.length_take]; omega)
        have hg := hb.gd k
        show _ = _
        rw [take_gd l k hlt, num_snoc, IntKind.wrap_u64, IntKind.wrap_u64, IntKind.wrap_u64]
        omega
      obtain ⟨ad, e, hx⟩ := HR.out.at_ k hlt
      cases e
      go_wp2
      go_round
      case rel => exact ⟨k + 1, by omega, by go_num, by rw [← HS.out]⟩
      case measure => simp [intOf]; omega
    · go_wp2
      go_ret
      have : k = l.length := by omega
      subst this
      exact ⟨by rw [List.take_length]; rfl, rfl⟩

set_option maxRecDepth 100000 in
theorem Sum_any (l : List Int) (A : Option Addr) (c : Nat) (w : World) (hr : Rd w A l) (hb : N8 l) (hlen : l.length ≤ 140737488351232) :
    Calls Try.prog 9 #[.slice A l.length c] w fun e w' => e = .returned (.int .u32 (crc l)) ∧ w = w' := by
  have HR := Aside0.mk hr
  clear hr
  go_enter Try.func9, Try.ntmps9
  go_wp2
  go_loop [2, 4, 7] (fun v2 _ v7 => ∃ k : Nat, k ≤ l.length ∧ v7 = .int .i64 k ∧ v2 = .int .u32 (crcRun (l.take k))) (fun _ _ v7 => l.length - (intOf v7).toNat)
  case atStart => exact ⟨0, Nat.zero_le _, rfl, rfl⟩
  case round =>
    obtain ⟨k, hk, rfl, rfl⟩ := hrel
    by_cases hlt : k < l.length
    · obtain ⟨ad, e, hx⟩ := HR.out.at_ k hlt
      cases e
      have HS : Hid (crcBits 8 (Go.bits .xor .u32 (crcRun (l.take k)) (gd l k % 4294967296)) = crcRun (l.take (k + 1))) := by
        have hg := hb.gd k
        show _ = _
        rw [take_gd l k hlt, crcRun_snoc, crcByte, show gd l k % 4294967296 = gd l k by omega]
      go_wp2
      go_loop [2, 15] (fun v2 v15 => ∃ j : Nat, j ≤ 8 ∧ v15 = .int .i64 j ∧ v2 = .int .u32 (crcBits j (Go.bits .xor .u32 (crcRun (l.take k)) (gd l k % 4294967296)))) (fun _ v15 => 8 - (intOf v15).toNat)
      case atStart => exact ⟨0, by omega, rfl, rfl⟩
      case round =>
        obtain ⟨j, hj, rfl, rfl⟩ := hrel
        by_cases hjl : j < 8
        · have hbd := crcBits_bd j (Go.bits .xor .u32 (crcRun (l.take k)) (gd l k % 4294967296)) (xor_bd _ _)
          have HB : Hid (Go.bits .xor .u32 (crcBits j (Go.bits .xor .u32 (crcRun (l.take k)) (gd l k % 4294967296)) / 2) (3988292384 * Go.bits .and .u32 (crcBits j (Go.bits .xor .u32 (crcRun (l.take k)) (gd l k % 4294967296))) 1 % 4294967296) = crcBits (j + 1) (Go.bits .xor .u32 (crcRun (l.take k)) (gd l k % 4294967296))) := by
            show _ = _
            rw [← IntKind.wrap_u32' (3988292384 * _), crcBit_mul _ hbd, crcBits_succ]
          clear hbd
          go_wp2
          go_round
          case rel => exact ⟨j + 1, by omega, by go_num, by rw [← HB.out]⟩
          case measure => simp [intOf]; omega
        · obtain rfl : j = 8 := by omega
          go_wp2
          go_round
          case rel => exact ⟨k + 1, by omega, by go_num, by rw [← HS.out]⟩
          case measure => simp [intOf]; omega
    · go_wp2
      go_ret
      have : k = l.length := by omega
      subst this
      exact ⟨by rw [List.take_length, crc, xor_comm]; rfl, rfl⟩

set_option maxRecDepth 100000 in
theorem rSum_any (l : List Int) (A : Option Addr) (c : Nat) (w : World) (hr : Rd w A l) (hb : N8 l) (hlen : l.length ≤ 140737488351232) :
    Calls Try.prog 10 #[.slice A l.length c] w fun e w' => e = .returned (.int .u32 (crc l)) ∧ w = w' := by
  have HR := Aside0.mk hr
  clear hr
  go_enter Try.func10, Try.ntmps10
  go_wp2
  go_loop [3, 4, 5] (fun v2 v7 _ => ∃ k : Nat, k ≤ l.length ∧ v7 = .int .i64 k ∧ v2 = .int .u32 (crcRun (l.take k))) (fun _ v7 _ => l.length - (intOf v7).toNat)
  case atStart => exact ⟨0, Nat.zero_le _, rfl, rfl⟩
  case round =>
    obtain ⟨k, hk, rfl, rfl⟩ := hrel
    by_cases hlt : k < l.length
    · obtain ⟨ad, e, hx⟩ := HR.out.at_ k hlt
      cases e
      have HS : Hid (crcBits 8 (Go.bits .xor .u32 (crcRun (l.take k)) (gd l k % 4294967296)) = crcRun (l.take (k + 1))) := by
        have hg := hb.gd k
        show _ = _
        rw [take_gd l k hlt, crcRun_snoc, crcByte, show gd l k % 4294967296 = gd l k by omega]
      go_wp2
      go_loop [3, 5] (fun v2 v15 => ∃ j : Nat, j ≤ 8 ∧ v15 = .int .i64 j ∧ v2 = .int .u32 (crcBits j (Go.bits .xor .u32 (crcRun (l.take k)) (gd l k % 4294967296)))) (fun _ v15 => 8 - (intOf v15).toNat)
      case atStart => exact ⟨0, by omega, rfl, rfl⟩
      case round =>
        obtain ⟨j, hj, rfl, rfl⟩ := hrel
        by_cases hjl : j < 8
        · generalize hz : crcBits j (Go.bits .xor .u32 (crcRun (l.take k)) (gd l k % 4294967296)) = z at *
          have hbd : 0 ≤ z ∧ z < 4294967296 := by rw [← hz]; exact crcBits_bd j _ (xor_bd _ _)
          have HB : Hid (crcBit z = crcBits (j + 1) (Go.bits .xor .u32 (crcRun (l.take k)) (gd l k % 4294967296))) := by
            show _ = _
            rw [crcBits_succ, hz]
          clear hz
          by_cases hodd : z % 2 = 1
          · have ht : (z % 2 == 1) = true := by simpa using hodd
            have HZ : Hid (crcBit z = Go.bits .xor .u32 (z / 2) 3988292384) := by show _ = _; rw [crcBit, if_pos hodd]
            clear hodd
            go_wp2
            go_round
            case rel => exact ⟨j + 1, by omega, by go_num, by rw [← HB.out, HZ.out]⟩
            case measure => simp [intOf]; omega
          · have ht : (z % 2 == 1) = false := by simpa using hodd
            have HZ : Hid (crcBit z = z / 2) := by show _ = _; rw [crcBit, if_neg hodd]
            clear hodd
            go_wp2
            go_round
            case rel => exact ⟨j + 1, by omega, by go_num, by rw [← HB.out, HZ.out]⟩
            case measure => simp [intOf]; omega
        · obtain rfl : j = 8 := by omega
          go_wp2
          go_round
          case rel => exact ⟨k + 1, by omega, by go_num, by rw [← HS.out]⟩
          case measure => simp [intOf]; omega
    · go_wp2
      go_ret
      have : k = l.length := by omega
      subst this
      exact ⟨by rw [List.take_length]; rfl, rfl⟩
end Go.Proofs.Ytfoojamabjpdpaa.Wal
