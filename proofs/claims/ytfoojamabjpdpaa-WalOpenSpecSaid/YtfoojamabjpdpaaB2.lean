import Derived.Test.YtfoojamabjpdpaaB
import Derived.Laws.CopyOwn
import Derived.StillTailTactics
/- encode makes a sector. -/
namespace Go.Proofs.Ytfoojamabjpdpaa.Wal
open Go.RowKit Go.Proofs.YtfoojamabjpdpaaW.PrintWords Go.Proofs.YtfoojamabjpdpaaW.PrintLast Go.Proofs.YtfoojamabjpdpaaW.PrintMore Go.Proofs.Ytfoojamabjpdpaa.PWalOpenSpec
attribute [local go_sem] max2_int min2_int max_two min_two max_three min_three max_four min_four
set_option linter.unusedVariables false
set_option linter.unusedSimpArgs false

/-- The zero value of [128]byte. -/
def Z128 : Array Value := u8s (List.replicate 128 0)
theorem zero71 (w : World) : (zeroValue 71).run Try.prog w = .ok (.agg Z128) w := by kernel_rfl

/-- A part of a block that reads as bytes. -/
theorem Blk.rd {w : World} {g t : Nat} {D : List Int} (h : Blk w g t (u8s D)) (lo hi : Nat) (h1 : lo ≤ hi) (h2 : hi ≤ D.length) (h3 : D.length ≤ 140737488351232) : Rd w (some ⟨g, lo, none⟩) ((D.take hi).drop lo) := by
  refine ⟨rfl, by rw [List.length_drop, List.length_take]; omega, fun _ => ⟨_, rfl, fun j p hp => ⟨[.int .u8 p], rfl, rfl, fun i u hu => ?_⟩⟩⟩
  have hj : j < ((D.take hi).drop lo).length := (List.getElem?_eq_some_iff.1 hp).1
  rw [List.length_drop, List.length_take] at hj
  obtain rfl : i = 0 := by
    have := (List.getElem?_eq_some_iff.1 hu).1
    simpa using this
  obtain rfl : Value.int .u8 p = u := by simpa using hu
  show w.cell? ((⟨g, lo, none⟩ : Addr).add (j * 1 + 0)) = _
  rw [Nat.mul_one, Nat.add_zero, show (⟨g, lo, none⟩ : Addr).add j = ⟨g, lo + j, none⟩ by unfold Addr.add; split <;> simp_all, h.u8 (lo + j) (by omega)]
  rw [gd, List.getD_eq_getElem?_getD]
  rw [List.getElem?_drop, List.getElem?_take_of_lt (by omega)] at hp
  rw [hp, Option.getD_some]

theorem Rd.cells {w : World} {A : Option Addr} {l : List Int} (h : Rd w A l) (h0 : 0 < l.length) : ∃ ad, A = some ad ∧ ∀ j v, (l.map (Value.int .u8))[j]? = some v → w.cell? (ad.add j) = some v := by
  obtain ⟨ad, e, _⟩ := h.at_ 0 h0
  refine ⟨ad, e, fun j v hv => ?_⟩
  rw [List.getElem?_map, Option.map_eq_some_iff] at hv
  obtain ⟨x, hx, rfl⟩ := hv
  have hj : j < l.length := (List.getElem?_eq_some_iff.1 hx).1
  obtain ⟨ad', e', hc⟩ := h.at_ j hj
  rw [e] at e'
  cases e'
  rw [hc, gd, List.getD_eq_getElem?_getD, hx, Option.getD_some]

theorem copy_u8 {W : World} {g o dLen dCap c t : Nat} {D b : List Int} {A : Option Addr} (hB : Blk W g t (u8s D)) (hR : Rd W A b) (hfit : o + dLen ≤ D.length) (hl : b.length ≤ dLen) :
    ∃ W', (Builtin.copy_ #[25, 25] 3 #[.slice (some ⟨g, o, none⟩) dLen dCap, .slice A b.length c]).run Try.prog W = .ok (.int .i64 b.length) W' ∧ Blk W' g t (u8s (D.take o ++ b ++ D.drop (o + b.length))) ∧ W.grownBy W' (some g) := by
  rcases Nat.eq_zero_or_pos b.length with h0 | h0
  · obtain rfl : b = [] := List.eq_nil_of_length_eq_zero h0
    exact ⟨W, run_copy_none W 25 25 3 5 _ A dLen dCap 0 c Try.underlying25 (by kernel_rfl) (by simp), by simpa using hB, World.grownBy.refl W _⟩
  · obtain ⟨ad, rfl, hc⟩ := hR.cells h0
    have h := run_copy_row (P := Try.prog) W 25 25 3 5 g o dLen dCap ad b.length c (u8s D) t (b.map (Value.int .u8)) Try.underlying25 (by kernel_rfl) hB (by rw [List.length_map]; exact (Nat.min_eq_left hl).symm)
      hc (by simp [u8s]; omega) (by intro v hv; obtain ⟨x, _, rfl⟩ := List.mem_map.1 hv; rfl)
    refine ⟨_, by rw [h, List.length_map]; rfl, ?_, ?_⟩
    · have e : ((u8s D).toList.take o ++ b.map (Value.int .u8) ++ (u8s D).toList.drop (o + (b.map (Value.int .u8)).length)).toArray = u8s (D.take o ++ b ++ D.drop (o + b.length)) := by
        simp [u8s, List.map_take, List.map_drop]
      rw [List.length_map] at e
      rw [e]
      exact setRow_heap W g _ _ t _ hB
    · exact ⟨rfl, rfl, rfl, by simp, fun k _ hk => setRow_other W g k _ (fun e => hk (by simp [e]))⟩

set_option maxHeartbeats 1000000 in
set_option maxRecDepth 100000 in
theorem encode_any (gn k kd : Int) (b : List Int) (A : Option Addr) (c : Nat) (w : World) (h : Rd w A b) (hb : N8 b) (hlen : b.length ≤ 112) (hg : 0 ≤ gn) (hk : 0 ≤ k ∧ k < 9223372036854775808) (hkd : 0 ≤ kd ∧ kd ≤ 255) :
    Calls Try.prog 30 #[.int .u64 gn, .int .i64 k, .int .u8 kd, .slice A b.length c] w fun e w' => ∃ g, e = .returned (.slice (some ⟨g, 0, none⟩) 128 128) ∧ w.heap.size ≤ g ∧ Blk w' g 71 (u8s (D6 gn k kd b)) ∧ Below w.heap.size w w' := by
  have hz := zero71
  have hb0 : Below w.heap.size w (w.alloc (.cells Z128 71)) := (Below.refl _ _).alloc (Nat.le_refl _) _
  have B0 : Aside0 (Blk (w.alloc (.cells Z128 71)) w.heap.size 71 (u8s (List.replicate 128 0))) := ⟨Blk.new w 71 Z128⟩
  have HB0 := Aside0.mk hb0
  have H := Aside0.mk h
  clear h hb0
  go_enter Try.func30, Try.ntmps30
  go_wp2_with fail
  refine (put4_any (List.replicate 128 0) w.heap.size 0 128 71 gn _ B0.out (by simp) hg).mono ?_
  rintro e w1 ⟨rfl, hB1, hg1⟩
  have HB1 : Aside0 (Below w.heap.size w w1) := ⟨HB0.out.grown hg1 (by simp) (fun j e => by cases e; exact Nat.le_refl _)⟩
  have B1 := Aside0.mk hB1
  clear hB1 hg1 B0 HB0
  go_wp2_with fail
  refine (put2_any (putR (List.replicate 128 0) 0 4 gn 4) w.heap.size 8 120 71 k _ B1.out (by rw [putR_length]; simp) hk.1).mono ?_
  rintro e w2 ⟨rfl, hB2, hg2⟩
  replace hB2 : Blk w2 w.heap.size 71 (u8s (D2 gn k)) := hB2
  have HB2 : Aside0 (Below w.heap.size w w2) := ⟨HB1.out.grown hg2 HB1.out.size (fun j e => by cases e; exact Nat.le_refl _)⟩
  have c10 := hB2.u8 10 (by rw [D2_length]; omega)
  have f10 := hB2.frozen 10
  have c11 := hB2.u8 11 (by rw [D2_length]; omega)
  have f11 := hB2.frozen 11
  obtain ⟨w2', hw2⟩ : ∃ W, W = (w2.setCell ⟨w.heap.size, 10, none⟩ (.int .u8 kd)).setCell ⟨w.heap.size, 11, none⟩ (.int .u8 (b.length : Int)) := ⟨_, rfl⟩
  have B3 : Blk w2' w.heap.size 71 (u8s (D3 gn k kd b.length)) := by
    have h3 := (hB2.set_ 10 (.int .u8 kd)).set_ 11 (.int .u8 (b.length : Int))
    rw [hw2]
    rwa [u8s_set, u8s_set] at h3
  have HB3 : Below w.heap.size w w2' := by
    rw [hw2]
    exact (HB2.out.setCell (p := ⟨w.heap.size, 10, none⟩) (Nat.le_refl _) _).setCell (p := ⟨w.heap.size, 11, none⟩) (Nat.le_refl _) _
  obtain ⟨w3, hcopy, B4, G4⟩ := copy_u8 (c := c) (o := 12) (dLen := 116) (dCap := 116) B3 (Kd.C_below H.out HB3) (by rw [D3_length]; omega) (by omega)
  have HB4 : Aside0 (Below w.heap.size w w3) := ⟨HB3.grown G4 HB3.size (fun j e => by cases e; exact Nat.le_refl _)⟩
  replace B4 : Aside0 (Blk w3 w.heap.size 71 (u8s (D4 gn k kd b))) := ⟨B4⟩
  clear G4 B3 HB3
  subst hw2
  clear hB2 hg2 B1 HB1 HB2
  have hw8 : IntKind.u8.wrap (b.length : Int) = (b.length : Int) := by rw [IntKind.wrap_u8']; omega
  go_wp2_with fail
  refine (put4_any (D4 gn k kd b) w.heap.size 124 4 71 gn _ B4.out (by rw [D4_length _ _ _ _ hlen]; omega) hg).mono ?_
  rintro e w4 ⟨rfl, hB5, hg5⟩
  have HB5 : Aside0 (Below w.heap.size w w4) := ⟨HB4.out.grown hg5 HB4.out.size (fun j e => by cases e; exact Nat.le_refl _)⟩
  have B5 : Aside0 (Blk w4 w.heap.size 71 (u8s (D5 gn k kd b))) := ⟨hB5⟩
  clear hB5 hg5 B4 HB4 c10 f10 c11 f11 hcopy hw8
  have R5 : Aside0 (Rd w4 (some ⟨w.heap.size, 8, none⟩) (((D5 gn k kd b).take 124).drop 8)) := ⟨B5.out.rd 8 124 (by omega) (by rw [D5_length _ _ _ _ hlen]; omega) (by rw [D5_length _ _ _ _ hlen]; omega)⟩
  have hl5 : (((D5 gn k kd b).take 124).drop 8).length = 116 := by rw [List.length_drop, List.length_take, D5_length _ _ _ _ hlen]; omega
  have N5 : Aside0 (N8 (((D5 gn k kd b).take 124).drop 8)) := ⟨((D5_n8 gn k kd b hb hlen hkd).take _).drop _⟩
  have S5 : Aside0 (Calls Try.prog 9 #[.slice (some ⟨w.heap.size, 8, none⟩) 116 120] w4.drew fun e w' => e = .returned (.int .u32 (crc (((D5 gn k kd b).take 124).drop 8))) ∧ w' = w4.drew) := ⟨by
    have h := Sum_any (((D5 gn k kd b).take 124).drop 8) (some ⟨w.heap.size, 8, none⟩) 120 w4.drew R5.out N5.out (by omega)
    rw [hl5] at h
    exact h.mono fun _ _ h => ⟨h.1, h.2.symm⟩⟩
  have hcb := crc_bd (((D5 gn k kd b).take 124).drop 8)
  have B5' : Aside0 (Blk w4.drew w.heap.size 71 (u8s (D5 gn k kd b))) := ⟨B5.out⟩
  have HB5' : Aside0 (Below w.heap.size w w4.drew) := ⟨HB5.out.drew⟩
  have HS : Aside0 (D6 gn k kd b = putR (D5 gn k kd b) 4 4 (crc (((D5 gn k kd b).take 124).drop 8)) 4) := ⟨rfl⟩
  clear hl5 R5 N5 B5 HB5
  generalize crc (((D5 gn k kd b).take 124).drop 8) = z at *
  go_wp2_with fail
  go_still_tail 4, (by kernel_rfl)
  still_call S5.out
  repeat still_step
  refine wpStill_nil ?_
  change wpList _ _ _ _ _ w4.drew
  generalize w4.drew = w5 at *
  go_wp2_with fail
  refine (put4_any (D5 gn k kd b) w.heap.size 4 124 71 z _ B5'.out (by rw [D5_length _ _ _ _ hlen]; omega) hcb.1).mono ?_
  rintro e w6 ⟨rfl, hB6, hg6⟩
  have HB6 : Aside0 (Below w.heap.size w w6) := ⟨HB5'.out.grown hg6 HB5'.out.size (fun j e => by cases e; exact Nat.le_refl _)⟩
  rw [← HS.out] at hB6
  have B6 := Aside0.mk hB6
  clear hB6 hg6 B5' HB5' S5 HS
  go_wp2
  go_ret
  exact ⟨_, rfl, Nat.le_refl _, B6.out, HB6.out⟩
end Go.Proofs.Ytfoojamabjpdpaa.Wal
