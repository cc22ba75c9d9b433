import Derived.StillTailTactics
import Derived.Test.YtfoojamabjpdpaaD5
/- The closed run: Sync. -/
namespace Go.Proofs.Ytfoojamabjpdpaa.Wal
open Go.RowKit Go.Proofs.YtfoojamabjpdpaaW.PrintWords Go.Proofs.YtfoojamabjpdpaaW.PrintLast Go.Proofs.YtfoojamabjpdpaaW.PrintMore Go.Proofs.Ytfoojamabjpdpaa.PWalOpenSpec
attribute [local go_sem] max2_int min2_int max_two min_two max_three min_three max_four min_four
set_option linter.unusedVariables false
set_option linter.unusedSimpArgs false

theorem openZ : openS [Z, Z] (-1) 0 false 0 1 = (0, 1, [], 0) := by kernel_rfl
def DAB : List Int := D6 1 0 3 [97, 98]
theorem DAB_len : DAB.length = 128 := by kernel_rfl
theorem openD : openS [DAB, Z] (-1) 0 false 0 1 = (0, 1, [[97, 98]], 0) := by kernel_rfl
theorem getZ : num (Z.take 4) = 0 := by kernel_rfl
theorem crc9 : crc [49, 50, 51, 52, 53, 54, 55, 56, 57] = 3421780262 := by kernel_rfl
theorem crc0 : crc [] = 0 := by kernel_rfl

abbrev lcells (A1 : Option Addr) (c1 : Nat) (s : Int) : Array Value := #[.int .i64 0, .int .i64 1, .slice A1 1 c1, .int .i64 s]
/-- What lies while a Sync runs. -/
structure SB (w : World) (A1 : Option Addr) (c1 g : Nat) (W : World) : Prop where
  log : Blk W w.heap.size 29 (lcells A1 c1 0)
  disk : Blk W (w.heap.size + 1) 24 (dcells g)
  rlog : Blk W (w.heap.size + 1 + 1) 29 zeroLog
  rdisk : Blk W (w.heap.size + 1 + 1 + 1) 24 zeroD
  below : Below w.heap.size w W
theorem SB.on {w : World} {A1 : Option Addr} {c1 g : Nat} {W W' : World} (h : SB w A1 c1 g W) (hb : Below W.heap.size W W') : SB w A1 c1 g W' :=
  ⟨h.log.below hb h.log.lt, h.disk.below hb h.disk.lt, h.rlog.below hb h.rlog.lt, h.rdisk.below hb h.rdisk.lt, h.below.trans (hb.mono h.below.size)⟩
theorem SB.start (w : World) (A1 : Option Addr) (c1 g : Nat) : SB w A1 c1 g ((((w.alloc (.cells (lcells A1 c1 0) 29)).alloc (.cells (dcells g) 24)).alloc (.cells zeroLog 29)).alloc (.cells zeroD 24)) := by
  have h1 := Blk.new (w.alloc (.cells (lcells A1 c1 0) 29)) 24 (dcells g)
  have h2 := Blk.new ((w.alloc (.cells (lcells A1 c1 0) 29)).alloc (.cells (dcells g) 24)) 29 zeroLog
  have h3 := Blk.new (((w.alloc (.cells (lcells A1 c1 0) 29)).alloc (.cells (dcells g) 24)).alloc (.cells zeroLog 29)) 24 zeroD
  simp only [World.size_alloc] at h1 h2 h3
  exact ⟨(((Blk.new w 29 _).alloc _).alloc _).alloc _, (h1.alloc _).alloc _, h2.alloc _, h3, ((((Below.refl _ w).alloc (Nat.le_refl _) _).alloc (by simp) _).alloc (by simp; omega) _).alloc (by simp; omega) _⟩
theorem ls_nil (w : World) {A : Option Addr} {L : List (List Int)} (h : Ls w A L) (hp : 0 < L.length) : Ls w A [] := by
  obtain ⟨ad, _, _, rfl, _⟩ := h.at_ 0 hp
  have := Ls.part h 0 0 (Nat.zero_le _)
  simpa [Addr.add] using this

/-- What lies when the record is written. -/
def Fin (w : World) (A1 : Option Addr) (c1 : Nat) (W : World) : Prop := ∃ A c, Blk W w.heap.size 29 (lcells A1 c1 0) ∧ Blk W (w.heap.size + 1) 24 #[.slice A 2 c, .int .i64 (-1), .int .i64 0, .bool false] ∧ Blk W (w.heap.size + 1 + 1) 29 zeroLog ∧ Blk W (w.heap.size + 1 + 1 + 1) 24 zeroD ∧ 2 ≤ c ∧ (∀ W', Kept W W' → Ls W' A [DAB, Z]) ∧ Below w.heap.size w W
theorem kept_drew (w : World) : Kept w w.drew := fun k _ _ _ _ _ => rfl
theorem sync_end (w : World) (A1 : Option Addr) (c1 : Nat) (Af : Option Addr) (cf : Nat) (wr : World) (h : Blk wr w.heap.size 29 (lcells A1 c1 0) ∧ Blk wr (w.heap.size + 1) 24 #[.slice Af 2 cf, .int .i64 (-1), .int .i64 0, .bool false] ∧ Blk wr (w.heap.size + 1 + 1) 29 zeroLog ∧ Blk wr (w.heap.size + 1 + 1 + 1) 24 zeroD ∧ 2 ≤ cf ∧ (∀ W', Kept wr W' → Ls W' Af [DAB, Z]) ∧ Below w.heap.size w wr) :
    Blk (set4 (set4 (wr.setCell ⟨w.heap.size, 3, none⟩ (.int .i64 1)) (w.heap.size + 1 + 1) (.int .i64 0) (.int .i64 1) (.slice A1 1 c1) (.int .i64 1)) (w.heap.size + 1 + 1 + 1) (.slice Af 2 cf) (.int .i64 (-1)) (.int .i64 0) (.bool false)) (w.heap.size + 1 + 1 + 1) 24 #[.slice Af 2 cf, .int .i64 (-1), .int .i64 0, .bool false] ∧ Blk (set4 (set4 (wr.setCell ⟨w.heap.size, 3, none⟩ (.int .i64 1)) (w.heap.size + 1 + 1) (.int .i64 0) (.int .i64 1) (.slice A1 1 c1) (.int .i64 1)) (w.heap.size + 1 + 1 + 1) (.slice Af 2 cf) (.int .i64 (-1)) (.int .i64 0) (.bool false)) (w.heap.size + 1 + 1) 29 (lcells A1 c1 1) ∧ Kept wr (set4 (set4 (wr.setCell ⟨w.heap.size, 3, none⟩ (.int .i64 1)) (w.heap.size + 1 + 1) (.int .i64 0) (.int .i64 1) (.slice A1 1 c1) (.int .i64 1)) (w.heap.size + 1 + 1 + 1) (.slice Af 2 cf) (.int .i64 (-1)) (.int .i64 0) (.bool false)) ∧ Below w.heap.size w (set4 (set4 (wr.setCell ⟨w.heap.size, 3, none⟩ (.int .i64 1)) (w.heap.size + 1 + 1) (.int .i64 0) (.int .i64 1) (.slice A1 1 c1) (.int .i64 1)) (w.heap.size + 1 + 1 + 1) (.slice Af 2 cf) (.int .i64 (-1)) (.int .i64 0) (.bool false)) := by
  obtain ⟨F1, F2, F3, F4, F5, F6, F7⟩ := h
  have n23 : w.heap.size + 1 + 1 + 1 ≠ w.heap.size + 1 + 1 := by omega
  have n02 : w.heap.size + 1 + 1 ≠ w.heap.size := by omega
  have n03 : w.heap.size + 1 + 1 + 1 ≠ w.heap.size := by omega
  have g2 : w.heap.size ≤ w.heap.size + 1 + 1 := by omega
  have g3 : w.heap.size ≤ w.heap.size + 1 + 1 + 1 := by omega
  have K7 := kept_set F1 (.inr rfl) 3 (.int .i64 1)
  have R7 := F3.far (p := ⟨w.heap.size, 3, none⟩) n02 (.int .i64 1)
  have Q7 := F4.far (p := ⟨w.heap.size, 3, none⟩) n03 (.int .i64 1)
  have B7 := F7.setCell (p := ⟨w.heap.size, 3, none⟩) (Nat.le_refl _) (.int .i64 1)
  generalize wr.setCell ⟨w.heap.size, 3, none⟩ (.int .i64 1) = W7 at *
  have K8 := K7.trans (kept_set4 R7 (.inr rfl) (.int .i64 0) (.int .i64 1) (.slice A1 1 c1) (.int .i64 1))
  have R8 := set4_blk R7 (.int .i64 0) (.int .i64 1) (.slice A1 1 c1) (.int .i64 1)
  have Q8 : Blk (set4 W7 (w.heap.size + 1 + 1) (.int .i64 0) (.int .i64 1) (.slice A1 1 c1) (.int .i64 1)) (w.heap.size + 1 + 1 + 1) 24 zeroD := (set4_other n23 _ _ _ _).trans Q7
  have B8 := set4_below B7 g2 (.int .i64 0) (.int .i64 1) (.slice A1 1 c1) (.int .i64 1)
  generalize set4 W7 (w.heap.size + 1 + 1) (.int .i64 0) (.int .i64 1) (.slice A1 1 c1) (.int .i64 1) = W8 at *
  exact ⟨set4_blk Q8 _ _ _ _, (set4_other n23.symm _ _ _ _).trans R8, K8.trans (kept_set4 Q8 (.inl rfl) _ _ _ _), set4_below B8 g3 _ _ _ _⟩
set_option maxHeartbeats 20000000 in
set_option maxRecDepth 100000 in
theorem Sync1 (A1 : Option Addr) (c1 g b0 b1 : Nat) (w : World) (hl : Ls w A1 AB) (hc1 : 1 ≤ c1) (hd : Disk2 w g b0 b1) :
    Calls Try.prog 13 #[.agg (lcells A1 c1 0), .agg (dcells g)] w fun e w' => ∃ A c, e = .returned (.tuple #[.agg (lcells A1 c1 1), .agg #[.slice A 2 c, .int .i64 (-1), .int .i64 0, .bool false], .int .i64 0]) ∧ 2 ≤ c ∧ Ls w' A [DAB, Z] ∧ Below w.heap.size w w' := by
  have HS0 := Aside0.mk (SB.start w A1 c1 g)
  have C21 : Aside0 (∀ W, SB w A1 c1 g W → Calls Try.prog 21 #[.agg (lcells A1 c1 0)] W fun e w' => e = .returned (.int .i64 0) ∧ SB w A1 c1 g w') :=
    ⟨fun W hS => (wCheck_few AB A1 c1 W (Kd.C_below hl hS.below) (.inr ⟨_, rfl, rfl⟩)).mono fun e w' h => ⟨h.1, hS.on h.2⟩⟩
  have C15 : Aside0 (∀ W, SB w A1 c1 g W → Calls Try.prog 15 #[.agg (dcells g)] W fun e w' => e = .returned (.int .i64 0) ∧ SB w A1 c1 g w') :=
    ⟨fun W hS => (Check_any [Z, Z] (-1) 0 false (some ⟨g, 0, none⟩) 2 W (hd.below hS.below).ls (by decide)).mono fun e w' h => ⟨by rw [h.1, ckD_yes okZ], hS.on h.2⟩⟩
  have hzz : ∀ s ∈ [Z, Z], N8 s := by intro s hs; simp at hs; subst hs; exact Z_n8
  have C6 : Aside0 (∀ W, SB w A1 c1 g W → Calls Try.prog 6 #[.agg (dcells g), .int .i64 0, .int .i64 1] W fun e w' => ∃ A c, e = .returned (.tuple #[.agg #[.int .i64 0, .int .i64 1, .slice A 0 c, .int .i64 0], .int .i64 0]) ∧ Ls w' A [] ∧ SB w A1 c1 g w') := ⟨fun W hS => by
    have := wOpen_any [Z, Z] (-1) 0 false 0 1 (some ⟨g, 0, none⟩) 2 W (hd.below hS.below).ls hzz (by decide) (by decide) (by decide) (by decide)
    rw [openZ] at this
    refine this.mono fun e w' h => ?_
    obtain ⟨A, c, he, _, hl', hb'⟩ := h
    exact ⟨A, c, he, hl', hS.on hb'⟩⟩
  have HL := Aside0.mk hl
  have HD := Aside0.mk hd
  clear hl hd hzz
  go_enter Try.func13, Try.ntmps13
  go_wp2_with (first
    | (go_at_call 21; refine (C21.out _ HS0.out).mono ?_; rintro e w1 ⟨rfl, hS1⟩; obtain ⟨z0, z1, z2, z3⟩ := cells4 hS1.log; obtain ⟨y0, y1, y2, y3⟩ := cells4 hS1.disk; have HS1 := Aside0.mk hS1; clear hS1)
    | (go_at_call 15; refine (C15.out _ HS1.out).mono ?_; rintro e w2 ⟨rfl, hS2⟩; obtain ⟨x0, x1, x2, x3⟩ := cells4 hS2.log; obtain ⟨u0, u1, u2, u3⟩ := cells4 hS2.disk; have HS2 := Aside0.mk hS2; clear hS2)
    | (go_at_call 6; refine (C6.out _ HS2.out).mono ?_; rintro e w3 ⟨An, cn, rfl, hln, hS3⟩; have hS4 := hS3.on ((Below.refl _ _).alloc (Nat.le_refl _) (.cells #[.int .i64 0, .int .i64 1, .slice An 0 cn, .int .i64 0] 29)); obtain ⟨a0, a1, a2, a3⟩ := cells4 hS4.log; obtain ⟨d0, d1, d2, d3⟩ := cells4 hS4.disk; obtain ⟨n0, n1, n2, n3⟩ := cells4 (Blk.new w3 29 #[.int .i64 0, .int .i64 1, .slice An 0 cn, .int .i64 0]); have HN := Aside0.mk (Blk.new w3 29 #[.int .i64 0, .int .i64 1, .slice An 0 cn, .int .i64 0]); have HLN := Aside0.mk hln; have HS4 := Aside0.mk hS4; have HS3 := Aside0.mk hS3; clear hS3 hS4 hln))
  have HD5 : Aside0 (Disk2 (w3.alloc (.cells #[.int .i64 0, .int .i64 1, .slice An 0 cn, .int .i64 0] 29)) g b0 b1) := ⟨HD.out.below HS4.out.below⟩
  have hsz5 : w3.heap.size < (w3.alloc (.cells #[.int .i64 0, .int .i64 1, .slice An 0 cn, .int .i64 0] 29)).heap.size := by simp
  clear z0 z1 z2 z3 y0 y1 y2 y3 x0 x1 x2 x3 u0 u1 u2 u3 HS1 HS2 HS3
  generalize (w3.alloc (.cells #[.int .i64 0, .int .i64 1, .slice An 0 cn, .int .i64 0] 29)) = W5 at *
  generalize w3.heap.size = gn at *
  have HSD : Aside0 (∀ wr : World, (∃ n, wr = W5.drewN n) → SB w A1 c1 g wr ∧ Disk2 wr g b0 b1 ∧ Blk wr gn 29 #[.int .i64 0, .int .i64 1, .slice An 0 cn, .int .i64 0]) := ⟨by
    rintro wr ⟨n, rfl⟩
    exact ⟨⟨HS4.out.log.drewN n, HS4.out.disk.drewN n, HS4.out.rlog.drewN n, HS4.out.rdisk.drewN n, pw_below_drewN HS4.out.below n⟩, ⟨HD5.out.row.drewN n, HD5.out.s0.drewN n, HD5.out.s1.drewN n⟩, HN.out.drewN n⟩⟩
  have C26a : Aside0 (∀ wr : World, (∃ n, wr = W5.drewN n) → ∀ m, Calls Try.prog 26 #[.slice (some ⟨b0, 0, none⟩) 4 128] (wr.drewN m) fun e w' => e = .returned (.int .u64 0) ∧ wr.drewN m = w') := ⟨fun wr hw m => by
    have := get_any (Z.take 4) (some ⟨b0, 0, none⟩) 128 (wr.drewN m) (Rd.take ((HSD.out wr hw).2.1.s0.rd0 Z_len) 4 (by rw [Z_len]; decide)) (Z_n8.take 4) (by decide)
    rw [getZ] at this
    exact this⟩
  have C26b : Aside0 (∀ wr : World, (∃ n, wr = W5.drewN n) → ∀ m, Calls Try.prog 26 #[.slice (some ⟨b0, 124, none⟩) 4 4] (wr.drewN m) fun e w' => e = .returned (.int .u64 0) ∧ wr.drewN m = w') := ⟨fun wr hw m => by
    have := get_any ((Z.take 128).drop 124) (some ⟨b0, 124, none⟩) 4 (wr.drewN m) ((HSD.out wr hw).2.1.s0.rd 124 128 (by decide) (by rw [Z_len]; decide) (by decide)) ((Z_n8.take 128).drop 124) (by decide)
    rw [show num ((Z.take 128).drop 124) = 0 by kernel_rfl] at this
    exact this⟩
  have HWN : Aside0 (∀ wr : World, (∃ n, wr = W5.drewN n) → ∀ m, ∃ n, wr.drewN m = W5.drewN n) := ⟨by
    rintro wr ⟨n, rfl⟩ m
    exact ⟨n + m, World.drewN_drewN _ _ _⟩⟩
  go_loopw [10, 12, 69] (fun v10 _ v69 wr => ∃ k : Nat, k ≤ 1 ∧ v69 = .int .i64 k ∧ v10 = .int .u64 0 ∧ Aside0 (∃ n, wr = W5.drewN n)) (fun _ _ v69 _ => 1 - (intOf v69).toNat)
  case atStart => exact ⟨0, by omega, rfl, rfl, ⟨0, rfl⟩⟩
  case round =>
    obtain ⟨k, hk, rfl, rfl, HWR⟩ := hrel
    clear a0 a1 a2 a3 d0 d1 d2 d3 n0 n1 n2 n3
    have hsd := HSD.out wr HWR.out
    rcases (show k = 0 ∨ k = 1 by omega) with rfl | rfl
    · have e0 : wr.cell? ⟨g, 0, none⟩ = some (sl128 b0) := hsd.2.1.row.cell 0
      clear hsd
      go_wp2
      go_quiet ((go_at_call 26; first | (with_reducible exact quiet_left (C26a.out _ HWR.out _)) | (with_reducible exact quiet_left (C26b.out _ HWR.out _))))
      go_wp2
      go_roundw
      case rel => exact ⟨1, by omega, rfl, rfl, ⟨HWN.out _ HWR.out _⟩⟩
      case measure => simp [intOf]
    · obtain ⟨a0, a1, a2, a3⟩ := cells4 hsd.1.log
      obtain ⟨n0, n1, n2, n3⟩ := cells4 hsd.2.2
      clear hsd
      go_wp2
      go_quiet ((go_at_call 27; exact quiet_left (EqualFunc0 _ _ _ _ _)))
      obtain ⟨W6, hW6⟩ : ∃ x, x = wr.drewN nq := ⟨_, rfl⟩
      have hsd := HSD.out W6 (by rw [hW6]; exact HWN.out wr HWR.out nq)
      rw [← hW6]
      clear a0 a1 a2 a3 n0 n1 n2 n3 hW6 HSD HWN C26a C26b C21 C15 C6
      obtain ⟨a0, a1, a2, a3⟩ := cells4 hsd.1.log
      obtain ⟨d0, d1, d2, d3⟩ := cells4 hsd.1.disk
      obtain ⟨ad, B, cb, eA, hx, hcb, hrB⟩ := HL.out.at_ 0 (by decide)
      have HX6 : Aside0 (W6.cell? (ad.add 0) = some (.slice B 2 cb)) := ⟨pw_cell_below hsd.1.below hx⟩
      have HRB : Aside0 (Rd W6 B [97, 98]) := ⟨Kd.C_below hrB hsd.1.below⟩
      have HCB : Aside0 (2 ≤ cb) := ⟨hcb⟩
      have C23 : Aside0 (Calls Try.prog 23 #[.slice A1 0 c1] W6 fun e w' => e = .returned (.int .i64 0) ∧ W6 = w') := ⟨used_few [] A1 c1 W6 (ls_nil _ (Kd.C_below HL.out hsd.1.below) (by decide)) (.inl rfl)⟩
      have HSD := Aside0.mk hsd
      subst eA
      clear hsd hx hrB hcb
      go_wp2_with (go_at_call 23; refine C23.out.mono ?_; rintro e w6 ⟨rfl, rfl⟩)
      go_loopw [6, 13, 15, 16, 17, 18, 112] (fun _ v13 _ _ _ _ v112 wr => (v112 = .int .i64 0 ∧ v13 = .int .i64 0 ∧ Aside0 (wr = W6)) ∨ (v112 = .int .i64 1 ∧ Aside0 (Fin w (some ad) c1 wr))) (fun _ _ _ _ _ _ v112 _ => 1 - (intOf v112).toNat)
      case atStart => exact .inl ⟨rfl, rfl, ⟨rfl⟩⟩
      case round =>
        rcases hrel with ⟨rfl, rfl, HWW⟩ | ⟨rfl, HF⟩
        · obtain rfl := HWW.out
          have hx0 := HX6.out
          have hx1 : wr.cell? ad = some (.slice B 2 cb) := by simpa [Addr.add] using hx0
          go_wp2_with (go_at_call 22; refine (sectors2 _ _ _).mono ?_; rintro e w6 ⟨rfl, rfl⟩)
          go_loopw [6, 13, 15, 16, 17, 18] (fun _ v13 v15 v16 v17 _ wr' => (v17 = .int .i64 1 ∧ v13 = .int .i64 0 ∧ v16 = .int .u8 1 ∧ v15 = .slice B 2 cb ∧ Aside0 (wr' = wr)) ∨ (v17 = .int .i64 0 ∧ Aside0 (Fin w (some ad) c1 wr'))) (fun _ _ _ _ v17 _ _ => (intOf v17).toNat)
          case atStart => exact .inl ⟨rfl, rfl, rfl, rfl, ⟨rfl⟩⟩
          case round =>
            rcases hrel with ⟨rfl, rfl, rfl, rfl, HWW'⟩ | ⟨rfl, HF⟩
            · obtain rfl := HWW'.out
              have hbor : Go.bits .or .u8 1 2 = 3 := by rfl
              have icb : (2 : Int) ≤ (cb : Int) := by have := HCB.out; omega
              obtain ⟨bd, rfl, _⟩ := HRB.out.at_ 0 (by decide)
              have C30 : Aside0 (∀ W, (∃ n, W = wr.drewN n) → Calls Try.prog 30 #[.int .u64 1, .int .i64 0, .int .u8 3, .slice (some bd) 2 cb] W fun e w' => ∃ gb, e = .returned (sl128 gb) ∧ Blk w' gb 71 (u8s DAB) ∧ SB w (some ad) c1 g w' ∧ Disk2 w' g b0 b1) := ⟨by
                rintro W ⟨n, rfl⟩
                have hS : SB w (some ad) c1 g (wr.drewN n) := HSD.out.1.on (pw_below_drewN (Below.refl _ _) n)
                have hD : Disk2 (wr.drewN n) g b0 b1 := HSD.out.2.1.below (pw_below_drewN (Below.refl _ _) n)
                refine (encode_any 1 0 3 [97, 98] (some bd) cb (wr.drewN n) (Kd.C_below HRB.out (pw_below_drewN (Below.refl _ _) n)) (by intro x hx; simp at hx; omega) (by decide) (by decide) (by decide) (by decide)).mono ?_
                rintro e w' ⟨gb, rfl, _, hB, hb⟩
                exact ⟨gb, rfl, hB, hS.on hb, hD.below hb⟩⟩
              have C29 : Aside0 (∀ W gb, Blk W gb 71 (u8s DAB) → SB w (some ad) c1 g W → Disk2 W g b0 b1 → Calls Try.prog 29 #[.agg (dcells g), .int .i64 0, sl128 gb] W fun e w' => ∃ A c, e = .returned (.tuple #[.agg #[.slice A 2 c, .int .i64 (-1), .int .i64 0, .bool false], .int .i64 0]) ∧ 2 ≤ c ∧ (∀ W', Kept w' W' → Ls W' A [DAB, Z]) ∧ SB w (some ad) c1 g w') := ⟨by
                intro W gb hB hS hD
                have hr : Rd W (some ⟨gb, 0, none⟩) DAB := by
                  have := hB.rd 0 128 (by decide) (by rw [DAB_len]; decide) (by decide)
                  rwa [List.drop_zero, List.take_of_length_le (by rw [DAB_len]; decide)] at this
                refine (Write2 g b0 b1 gb DAB W hD hr DAB_len).mono ?_
                rintro e w' ⟨A, c, rfl, hc, hl, hb⟩
                exact ⟨A, c, rfl, hc, hl, hS.on hb⟩⟩
              go_wp2
              go_region_with (first
                | (go_at_call 30; refine (C30.out _ ⟨1, rfl⟩).mono ?_; rintro e w4 ⟨gb, rfl, hB4, hS4, hD4⟩; obtain ⟨s0, s1, s2, s3⟩ := cells4 hS4.disk; obtain ⟨v0, v1, v2, v3⟩ := cells4 hS4.log; have HB4 := Aside0.mk hB4; have HS4' := Aside0.mk hS4; have HD4 := Aside0.mk hD4; clear hB4 hS4 hD4)
                | (go_at_call 29; refine (C29.out _ _ HB4.out HS4'.out HD4.out).mono ?_; rintro e w5 ⟨Af, cf, rfl, hcf, hlf, hS5⟩; obtain ⟨t0, t1, t2, t3⟩ := cells4 hS5.disk; have ft0 := hS5.disk.frozen 0; have ft1 := hS5.disk.frozen 1; have ft2 := hS5.disk.frozen 2; have ft3 := hS5.disk.frozen 3; have HS5 := Aside0.mk hS5; have HLF := Aside0.mk (And.intro hcf hlf); clear hS5 hcf hlf))
              all_goals
                simp only [Act.put, List.setIfInBounds_toArray, List.set_cons_zero, List.set_cons_succ]
                go_wp2
                go_roundw
                case rel =>
                  exact .inr ⟨rfl, ⟨Af, cf, (set4_other (by omega) _ _ _ _).trans HS5.out.log, set4_blk HS5.out.disk _ _ _ _, (set4_other (by omega) _ _ _ _).trans HS5.out.rlog, (set4_other (by omega) _ _ _ _).trans HS5.out.rdisk, HLF.out.1, fun W' hW => HLF.out.2 _ ((kept_set4 HS5.out.disk (by decide) _ _ _ _).trans hW), set4_below HS5.out.below (by omega) _ _ _ _⟩⟩
                case measure => simp [intOf]
            · go_wp2
              exact ⟨.inr ⟨rfl, HF⟩, by simp [intOf]⟩
        · obtain ⟨Af, cf, F1, F2, F3, F4, F5, F6, F7⟩ := HF.out
          obtain ⟨b0', b1', b2', b3'⟩ := cells4 F1
          have g3 := F1.frozen 3
          have L7 : Blk (wr.setCell ⟨w.heap.size, 3, none⟩ (.int .i64 1)) w.heap.size 29 (lcells (some ad) c1 1) := F1.set_ 3 _
          have D7 := F2.far (p := ⟨w.heap.size, 3, none⟩) (by simp) (.int .i64 1)
          have R7 := F3.far (p := ⟨w.heap.size, 3, none⟩) (by simp; omega) (.int .i64 1)
          have Q7 := F4.far (p := ⟨w.heap.size, 3, none⟩) (by simp; omega) (.int .i64 1)
          obtain ⟨l0, l1, l2, l3⟩ := cells4 L7
          obtain ⟨k0, k1, k2, k3⟩ := cells4 D7
          obtain ⟨r0, r1, r2, r3⟩ := cells4 R7
          obtain ⟨q0, q1, q2, q3⟩ := cells4 Q7
          have fr0 := R7.frozen 0
          have fr1 := R7.frozen 1
          have fr2 := R7.frozen 2
          have fr3 := R7.frozen 3
          have fq0 := Q7.frozen 0
          have fq1 := Q7.frozen 1
          have fq2 := Q7.frozen 2
          have fq3 := Q7.frozen 3
          have HFF := Aside0.mk (And.intro F1 (And.intro F2 (And.intro F3 (And.intro F4 (And.intro F5 (And.intro F6 F7))))))
          have HF7 := Aside0.mk (And.intro L7 (And.intro D7 (And.intro R7 Q7)))
          clear F1 F2 F3 F4 F5 F6 F7 HF L7 D7 R7 Q7
          go_wp2
          go_region
          go_wp2
          obtain ⟨hq9, hr9, hk9, hb9⟩ := sync_end w (some ad) c1 Af cf wr HFF.out
          obtain ⟨p0, p1, p2, p3⟩ := cells4 hq9
          obtain ⟨m0, m1, m2, m3⟩ := cells4 hr9
          have hls := HFF.out.2.2.2.2.2.1 _ (hk9.trans (kept_drew _))
          have hbl := pw_below_drewN hb9 1
          clear hq9 hr9 hk9 hb9
          have HE := Aside0.mk (And.intro hls hbl)
          have HC := Aside0.mk HFF.out.2.2.2.2.1
          clear hls hbl b0' b1' b2' b3' l0 l1 l2 l3 k0 k1 k2 k3 r0 r1 r2 r3 q0 q1 q2 q3 fr0 fr1 fr2 fr3 fq0 fq1 fq2 fq3 g3 HFF HF7 HSD C23 a0 a1 a2 a3 d0 d1 d2 d3 HS4 HS0 HL HX6 HRB HCB HN HD5 HD HLN
          refine bodyPost_ret (v := .tuple #[.agg (lcells (some ad) c1 1), .agg #[.slice Af 2 cf, .int .i64 (-1), .int .i64 0, .bool false], .int .i64 0]) ?_ rfl ⟨Af, cf, rfl, HC.out, HE.out.1, HE.out.2⟩
          simp [results, Try.results13, go_sem, p0, p1, p2, p3, m0, m1, m2, m3]
end Go.Proofs.Ytfoojamabjpdpaa.Wal
