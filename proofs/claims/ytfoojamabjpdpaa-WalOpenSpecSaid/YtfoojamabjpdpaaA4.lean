import Derived.Test.YtfoojamabjpdpaaA2
/- Contracts of SameRecords, Same, bytes.Equal and few. -/
namespace Go.Proofs.Ytfoojamabjpdpaa.Wal
open Go.RowKit Go.Proofs.YtfoojamabjpdpaaW.PrintWords Go.Proofs.YtfoojamabjpdpaaW.PrintLast Go.Proofs.YtfoojamabjpdpaaW.PrintMore Go.Proofs.Ytfoojamabjpdpaa.PWalOpenSpec
attribute [local go_sem] max2_int min2_int max_two min_two max_three min_three max_four min_four
set_option linter.unusedVariables false
set_option linter.unusedSimpArgs false

theorem str_inj (a b : List Int) (ha : N8 a) (hb : N8 b) : (strOfNums a).toList = (strOfNums b).toList ↔ a = b := by
  constructor
  · intro h
    have h1 : ∀ l, (strOfNums l).toList = l.map fun n => UInt8.ofNat n.toNat := fun l => by simp [strOfNums, ByteArray.toList_eq]
    rw [h1, h1] at h
    have h2 : ∀ l : List Int, N8 l → (l.map fun n => UInt8.ofNat n.toNat).map (fun c => (c.toNat : Int)) = l := fun l hl => by
      rw [List.map_map]
      conv => rhs; rw [← List.map_id l]
      refine List.map_congr_left fun x hx => ?_
      have := hl x hx
      simp only [Function.comp, UInt8.toNat_ofNat', id]
      omega
    rw [← h2 a ha, ← h2 b hb, h]
  · rintro rfl; rfl
theorem str_beq (a b : List Int) (ha : N8 a) (hb : N8 b) : ((strOfNums a).toList == (strOfNums b).toList) = decide (a = b) := by
  rw [Bool.eq_iff_iff, beq_iff_eq, decide_eq_true_iff, str_inj a b ha hb]

set_option maxRecDepth 100000 in
theorem Equal_any (a b : List Int) (A B : Option Addr) (c d : Nat) (w : World) (hr : Rd w A a) (hs : Rd w B b) (ha : N8 a) (hb : N8 b) :
    Calls Try.prog 28 #[.slice A a.length c, .slice B b.length d] w fun e w' => e = .returned (.bool (decide (a = b))) ∧ w = w' := by
  rw [← str_beq a b ha hb]
  have hcv3 := Kd.C_string (P := Try.prog) (A := A) (c := c) Try.underlying25 Try.underlying5 Try.underlying9 hr
  have hcv4 := Kd.C_string (P := Try.prog) (A := B) (c := d) Try.underlying25 Try.underlying5 Try.underlying9 hs
  clear hr hs
  go_enter Try.func28, Try.ntmps28
  go_wp2
  go_ret
  exact ⟨rfl, rfl⟩

theorem eq_iff_gl (L M : List (List Int)) (h : L.length = M.length) : L = M ↔ ∀ i, i < L.length → gl L i = gl M i := by
  constructor
  · rintro rfl _ _; rfl
  · intro hi
    refine List.ext_getElem h fun i h1 h2 => ?_
    rw [← gl_eq L i h1, ← gl_eq M i h2]
    exact hi i h1

set_option maxHeartbeats 1000000 in
set_option maxRecDepth 100000 in
theorem SameRecords_any (L M : List (List Int)) (A B : Option Addr) (c d : Nat) (w : World) (hr : Ls w A L) (hs : Ls w B M) (hL : ∀ s ∈ L, N8 s) (hM : ∀ s ∈ M, N8 s) (hlen : L.length ≤ 140737488351232) (hlen2 : M.length ≤ 140737488351232) :
    Calls Try.prog 19 #[.slice A L.length c, .slice B M.length d] w fun e w' => e = .returned (.bool (decide (L = M))) ∧ Drawn0 w w' := by
  have HR := Aside0.mk hr
  have HS := Aside0.mk hs
  clear hr hs
  obtain ⟨r, er⟩ : ∃ r : Bool, decide (L = M) = r := ⟨_, rfl⟩
  rw [er]
  have ER := Aside0.mk er
  clear er
  by_cases hlm : L.length = M.length
  case neg =>
    have er := ER.out
    obtain rfl : r = false := by
      rw [← er, decide_eq_false_iff_not]
      rintro rfl
      exact hlm rfl
    clear er
    have ht : (L.length == M.length) = false := by simpa using hlm
    have hlm' := Aside0.mk hlm
    clear hlm
    go_enter Try.func19, Try.ntmps19
    go_wp2
    go_ret
    exact ⟨rfl, Drawn0.refl _⟩
  have ht : (L.length == M.length) = true := by simpa using hlm
  have hlm' := Aside0.mk hlm
  clear hlm
  go_enter Try.func19, Try.ntmps19
  go_wp2
  go_loopw [4, 5] (fun _ v5 w' => ∃ k : Nat, k ≤ L.length ∧ v5 = .int .i64 k ∧ Aside0 (∀ i, i < k → gl L i = gl M i) ∧ Drawn0 w w') (fun _ v5 _ => L.length - (intOf v5).toNat)
  case atStart => exact ⟨0, Nat.zero_le _, rfl, ⟨fun i hi => by omega⟩, Drawn0.refl _⟩
  case round =>
    obtain ⟨k, hk, rfl, HA, ⟨m, rfl⟩⟩ := hrel
    by_cases hlt : k < L.length
    · have hlt2 : k < M.length := by have := hlm'.out; omega
      obtain ⟨ad, A1, c1, e, hx, _, hra⟩ := HR.out.at_ k hlt
      obtain ⟨bd, B1, d1, e', hy, _, hrb⟩ := HS.out.at_ k hlt2
      cases e
      cases e'
      have hcv3 := fun n : Nat => Kd.C_string (P := Try.prog) (w := w.drewN n) (A := A1) (c := c1) Try.underlying25 Try.underlying5 Try.underlying9 hra
      have hcv4 := fun n : Nat => Kd.C_string (P := Try.prog) (w := w.drewN n) (A := B1) (c := d1) Try.underlying25 Try.underlying5 Try.underlying9 hrb
      clear hra hrb
      have hn1 := hL _ (gl_mem L k hlt)
      have hn2 := hM _ (gl_mem M k hlt2)
      by_cases heq : gl L k = gl M k
      · have ht2 : ((strOfNums (gl L k)).toList == (strOfNums (gl M k)).toList) = true := by rw [str_beq _ _ hn1 hn2]; simpa using heq
        have ht3 : ((strOfNums (gl L k)).toList != (strOfNums (gl M k)).toList) = false := by rw [bne, ht2]; rfl
        have HEQ := Aside0.mk heq
        clear heq hn1 hn2
        go_wp2
        go_quiet (fail)
        go_wp2
        go_roundw
        case rel => exact ⟨k + 1, by omega, by go_num, ⟨fun i hi => by
          by_cases hik : i = k
          · rw [hik]; exact HEQ.out
          · exact HA.out i (by omega)⟩, by repeat (first | exact Drawn0.refl _ | apply Drawn0.step)⟩
        case measure => simp [intOf]; omega
      · have ht2 : ((strOfNums (gl L k)).toList == (strOfNums (gl M k)).toList) = false := by rw [str_beq _ _ hn1 hn2]; simpa using heq
        have ht3 : ((strOfNums (gl L k)).toList != (strOfNums (gl M k)).toList) = true := by rw [bne, ht2]; rfl
        have er := ER.out
        obtain rfl : r = false := by
          rw [← er, decide_eq_false_iff_not]
          rintro rfl
          exact heq rfl
        clear er heq hn1 hn2
        go_wp2
        go_quiet (fail)
        go_wp2
        go_ret
        exact ⟨rfl, by repeat (first | exact Drawn0.refl _ | apply Drawn0.step)⟩
    · have er := ER.out
      obtain rfl : r = true := by
        rw [← er, decide_eq_true_iff, eq_iff_gl L M hlm'.out]
        exact fun i hi => HA.out i (by omega)
      clear er
      go_wp2
      go_ret
      exact ⟨rfl, by repeat (first | exact Drawn0.refl _ | apply Drawn0.step)⟩
end Go.Proofs.Ytfoojamabjpdpaa.Wal
