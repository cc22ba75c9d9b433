import Derived.Test.YtfoojamabjpdpaaD4
/- The closed run: Write. -/
namespace Go.Proofs.Ytfoojamabjpdpaa.Wal
open Go.RowKit Go.Proofs.YtfoojamabjpdpaaW.PrintWords Go.Proofs.YtfoojamabjpdpaaW.PrintLast Go.Proofs.YtfoojamabjpdpaaW.PrintMore Go.Proofs.Ytfoojamabjpdpaa.PWalOpenSpec
attribute [local go_sem] max2_int min2_int max_two min_two max_three min_three max_four min_four
set_option linter.unusedVariables false
set_option linter.unusedSimpArgs false

abbrev sl128 (b : Nat) : Value := .slice (some ⟨b, 0, none⟩) 128 128
theorem Blk.rd0 {w : World} {b : Nat} {s : List Int} (h : Blk w b 5 (u8s s)) (hs : s.length = 128) : Rd w (some ⟨b, 0, none⟩) s := by
  have := h.rd 0 128 (by omega) (by omega) (by omega)
  rwa [List.drop_zero, List.take_of_length_le (by omega)] at this
theorem ls_two {w : World} {g : Nat} {B0 B1 : Option Addr} {c0 c1 : Nat} {s0 s1 : List Int} (h0 : w.cell? ⟨g, 0, none⟩ = some (.slice B0 s0.length c0)) (h1 : w.cell? ⟨g, 1, none⟩ = some (.slice B1 s1.length c1)) (hc0 : s0.length ≤ c0) (hc1 : s1.length ≤ c1) (r0 : Rd w B0 s0) (r1 : Rd w B1 s1) : Ls w (some ⟨g, 0, none⟩) [s0, s1] := by
  refine Ls.of (fun k hk => ?_) (by simp)
  match k, hk with
  | 0, _ => exact ⟨B0, c0, h0, hc0, r0⟩
  | 1, _ => exact ⟨B1, c1, h1, hc1, r1⟩
  | k + 2, hk => simp at hk; omega
/-- A disk of two new sectors. -/
structure Disk2 (w : World) (g b0 b1 : Nat) : Prop where
  row : Blk w g 25 #[sl128 b0, sl128 b1]
  s0 : Blk w b0 5 (u8s Z)
  s1 : Blk w b1 5 (u8s Z)
theorem Disk2.below {w w' : World} {g b0 b1 : Nat} (h : Disk2 w g b0 b1) (hb : Below w.heap.size w w') : Disk2 w' g b0 b1 := ⟨h.row.below hb h.row.lt, h.s0.below hb h.s0.lt, h.s1.below hb h.s1.lt⟩
theorem Disk2.ls {w : World} {g b0 b1 : Nat} (h : Disk2 w g b0 b1) : Ls w (some ⟨g, 0, none⟩) [Z, Z] :=
  ls_two (s0 := Z) (s1 := Z) (c0 := 128) (c1 := 128) (by rw [Z_len]; exact h.row.cell 0) (by rw [Z_len]; exact h.row.cell 1) (by rw [Z_len]; exact Nat.le_refl _) (by rw [Z_len]; exact Nat.le_refl _) (h.s0.rd0 Z_len) (h.s1.rd0 Z_len)
theorem okZ : okD [Z, Z] (-1) 0 false = true := by kernel_rfl

theorem Disk2.far {w : World} {g b0 b1 : Nat} (h : Disk2 w g b0 b1) {p : Addr} (hg : g ≠ p.block) (h0 : b0 ≠ p.block) (h1 : b1 ≠ p.block) (u : Value) : Disk2 (w.setCell p u) g b0 b1 := ⟨h.row.far hg u, h.s0.far h0 u, h.s1.far h1 u⟩
abbrev dcells (g : Nat) : Array Value := #[.slice (some ⟨g, 0, none⟩) 2 2, .int .i64 (-1), .int .i64 0, .bool false]
abbrev zeroD : Array Value := #[.slice none 0 0, .int .i64 0, .int .i64 0, .bool false]
theorem set4_other {w : World} {k g : Nat} (h : k ≠ g) (a b c d : Value) : (set4 w g a b c d).heap[k]? = w.heap[k]? := by
  simp only [set4]
  rw [Below.heap_setCell _ _ _ k h, Below.heap_setCell _ _ _ k h, Below.heap_setCell _ _ _ k h, Below.heap_setCell _ _ _ k h]
/-- Whatever is not a disk's box or a log's is as it was. -/
def Kept (w w' : World) : Prop := ∀ k t cs, Blk w k t cs → t ≠ 24 → t ≠ 29 → w'.heap[k]? = w.heap[k]?
theorem Kept.trans {a b c : World} (h1 : Kept a b) (h2 : Kept b c) : Kept a c := fun k t cs h ht hl => (h2 k t cs ((h1 k t cs h ht hl).trans h) ht hl).trans (h1 k t cs h ht hl)
theorem kept_of {w w' : World} {g t : Nat} {cs : Array Value} (hB : Blk w g t cs) (ht : t = 24 ∨ t = 29) (h : ∀ k, k ≠ g → w'.heap[k]? = w.heap[k]?) : Kept w w' := fun k t' cs' hk h24 h29 => h k (by
  rintro rfl
  have := (show w.heap[k]? = _ from hB).symm.trans hk
  have e2 : t = t' := by injection this with e; injection e
  subst e2
  rcases ht with ht | ht
  · exact h24 ht
  · exact h29 ht)
theorem kept_set {w : World} {g t : Nat} {cs : Array Value} (hB : Blk w g t cs) (ht : t = 24 ∨ t = 29) (j : Nat) (u : Value) : Kept w (w.setCell ⟨g, j, none⟩ u) := kept_of hB ht fun k hk => Below.heap_setCell _ _ _ k hk
theorem kept_set4 {w : World} {g t : Nat} {cs : Array Value} (hB : Blk w g t cs) (ht : t = 24 ∨ t = 29) (a b c d : Value) : Kept w (set4 w g a b c d) := kept_of hB ht fun k hk => set4_other hk a b c d
set_option maxHeartbeats 8000000 in
set_option maxRecDepth 100000 in
theorem Write2 (g b0 b1 gb : Nat) (D : List Int) (w : World) (hd : Disk2 w g b0 b1) (hr : Rd w (some ⟨gb, 0, none⟩) D) (hD : D.length = 128) :
    Calls Try.prog 29 #[.agg (dcells g), .int .i64 0, sl128 gb] w fun e w' => ∃ A c, e = .returned (.tuple #[.agg #[.slice A 2 c, .int .i64 (-1), .int .i64 0, .bool false], .int .i64 0]) ∧ 2 ≤ c ∧ (∀ W', Kept w' W' → Ls W' A [D, Z]) ∧ Below w.heap.size w w' := by
  have hb : Below w.heap.size w ((w.alloc (.cells (dcells g) 24)).alloc (.cells zeroD 24)) := ((Below.refl _ w).alloc (Nat.le_refl _) _).alloc (by simp) _
  have hB := (Blk.new w 24 (dcells g)).alloc (.cells zeroD 24)
  have hR : Blk ((w.alloc (.cells (dcells g) 24)).alloc (.cells zeroD 24)) (w.heap.size + 1) 24 zeroD := by
    have := Blk.new (w.alloc (.cells (dcells g) 24)) 24 zeroD
    rwa [World.size_alloc] at this
  have C0 : Aside0 (Calls Try.prog 15 #[.agg (dcells g)] ((w.alloc (.cells (dcells g) 24)).alloc (.cells zeroD 24)) fun e w1 => e = .returned (.int .i64 0) ∧ Blk w1 w.heap.size 24 (dcells g) ∧ Blk w1 (w.heap.size + 1) 24 zeroD ∧ Below w.heap.size w w1) :=
    ⟨(Check_any [Z, Z] (-1) 0 false (some ⟨g, 0, none⟩) 2 _ (hd.below hb).ls (by decide)).mono fun e w1 h => ⟨by rw [h.1, ckD_yes okZ], hB.below h.2 hB.lt, hR.below h.2 hR.lt, hb.trans (h.2.mono hb.size)⟩⟩
  have HD := Aside0.mk hd
  have HR := Aside0.mk hr
  clear hd hr hb hB hR
  go_enter Try.func29, Try.ntmps29
  go_wp2_with (first
    | (go_at_call 15
       refine C0.out.mono ?_
       rintro e w1 ⟨rfl, hB1, hR1, hb1⟩
       obtain ⟨z0, z1, z2, z3⟩ := cells4 hB1
       obtain ⟨y0, y1, y2, y3⟩ := cells4 hR1
       obtain ⟨a0, a1, a2, a3⟩ := cells4 (hB1.alloc (.cells (dcells g) 69))
       obtain ⟨n0, n1, n2, n3⟩ := cells4 (Blk.new w1 69 (dcells g))
       have HB1 := Aside0.mk hB1
       have HR1 := Aside0.mk hR1
       have HW1 := Aside0.mk hb1
       have HD1 : Aside0 (Disk2 (w1.alloc (.cells (dcells g) 69)) g b0 b1) := ⟨HD.out.below (hb1.alloc hb1.size _)⟩
       have hg0 : (w1.alloc (.cells (dcells g) 69)).cell? ((⟨g, 0, none⟩ : Addr).add 0) = some (sl128 b0) := HD1.out.row.cell 0
       have hg1 : (w1.alloc (.cells (dcells g) 69)).cell? ((⟨g, 0, none⟩ : Addr).add 1) = some (sl128 b1) := HD1.out.row.cell 1
       clear hB1 hb1 hR1)
    | (go_at_call 20; refine (within_any _ _ _ true (by decide) _).mono ?_; rintro e w2 ⟨rfl, rfl⟩)
    | (go_at_call 38
       refine (Clone38 ⟨g, 0, none⟩ 2 (sl128 b0) (sl128 b1) _ hg0 hg1 rfl rfl).mono ?_
       rintro e w2 ⟨A', c', rfl, ho2, hb2⟩
       have HW2 := Aside0.mk hb2
       obtain ⟨g', cap, cur, hA', hle', hcur, hnc', hcm', hsz', htk'⟩ : ∃ g' cap cur, Value.slice A' 2 c' = .slice (some ⟨g', 0, none⟩) 2 cap ∧ (w1.alloc (.cells (dcells g) 69)).heap.size ≤ g' ∧ Blk w2 g' 25 cur ∧ 2 ≤ cap ∧ cap ≤ maxLen ∧ cur.size = cap * 1 ∧ cur.toList.take (2 * 1) = [sl128 b0, sl128 b1] := ho2.2.resolve_left (fun h => by cases h.2)
       obtain ⟨rfl, rfl⟩ : A' = some ⟨g', 0, none⟩ ∧ c' = cap := by injection hA' with h1 h2 h3; exact ⟨h1, h3⟩
       have HCUR : Aside0 (Blk w2 g' 25 cur ∧ cur.toList.take (2 * 1) = [sl128 b0, sl128 b1] ∧ (w1.alloc (.cells (dcells g) 69)).heap.size ≤ g' ∧ 2 ≤ c') := ⟨hcur, htk', hle', hnc'⟩
       have N2 := (Blk.new w1 69 (dcells g)).below hb2 (by simp)
       have HN2 := Aside0.mk N2
       obtain ⟨p0, p1, p2, p3⟩ := cells4 N2
       have q0 := N2.frozen 0
       have HB2 := Aside0.mk ((HB1.out.alloc (.cells (dcells g) 69)).below hb2 (by have := HB1.out.lt; simp; omega))
       have HR2 := Aside0.mk ((HR1.out.alloc (.cells (dcells g) 69)).below hb2 (by have := HR1.out.lt; simp; omega))
       have hsz1 : w.heap.size ≤ w1.heap.size := HW1.out.size
       have hD0 := HD.out.row.lt
       have hD1 := HD.out.s0.lt
       have hD2 := HD.out.s1.lt
       have hgw : w1.heap.size < g' := by simp at hle'; omega
       have hl24 := HB1.out.lt
       have hl25 := HR1.out.lt
       have HN2s := HN2.out.set_ 0 (.slice (some ⟨g', 0, none⟩) 2 c')
       have HB2s := HB2.out.far (p := ⟨w1.heap.size, 0, none⟩) (by simp; omega) (.slice (some ⟨g', 0, none⟩) 2 c')
       have HR2s := HR2.out.far (p := ⟨w1.heap.size, 0, none⟩) (by simp; omega) (.slice (some ⟨g', 0, none⟩) 2 c')
       have HD2s := (HD1.out.below hb2).far (p := ⟨w1.heap.size, 0, none⟩) (by simp; omega) (by simp; omega) (by simp; omega) (.slice (some ⟨g', 0, none⟩) 2 c')
       have HC2s := hcur.far (p := ⟨w1.heap.size, 0, none⟩) (by simp; omega) (.slice (some ⟨g', 0, none⟩) 2 c')
       have HW2s : Below w.heap.size w (w2.setCell ⟨w1.heap.size, 0, none⟩ (.slice (some ⟨g', 0, none⟩) 2 c')) := ((HW1.out.alloc hsz1 _).trans (hb2.mono (by simp; omega))).setCell (p := ⟨w1.heap.size, 0, none⟩) (by simp; omega) _
       obtain ⟨c0, c1, c2, c3⟩ := cells4 HB2s
       have d0 : (w2.setCell ⟨w1.heap.size, 0, none⟩ (.slice (some ⟨g', 0, none⟩) 2 c')).cell? ⟨g, 0, none⟩ = some (sl128 b0) := HD2s.row.cell 0
       have C25 : Aside0 (Calls Try.prog 25 #[sl128 b0] (w2.setCell ⟨w1.heap.size, 0, none⟩ (.slice (some ⟨g', 0, none⟩) 2 c')) fun e w' => ∃ A' c'', e = .returned (.slice A' 128 c'') ∧ OwnB w' (w2.setCell ⟨w1.heap.size, 0, none⟩ (.slice (some ⟨g', 0, none⟩) 2 c')).heap.size (.slice A' 128 c'') Z ∧ Below (w2.setCell ⟨w1.heap.size, 0, none⟩ (.slice (some ⟨g', 0, none⟩) 2 c')).heap.size (w2.setCell ⟨w1.heap.size, 0, none⟩ (.slice (some ⟨g', 0, none⟩) 2 c')) w') := ⟨by
         have := Clone25 Z ⟨b0, 0, none⟩ 128 (w2.setCell ⟨w1.heap.size, 0, none⟩ (.slice (some ⟨g', 0, none⟩) 2 c')) (HD2s.s0.rd0 Z_len) (by rw [Z_len]; decide)
         rw [Z_len] at this
         exact this⟩
       have KN := Aside0.mk HN2s
       have KB := Aside0.mk HB2s
       have KR := Aside0.mk HR2s
       have KD := Aside0.mk HD2s
       have KC := Aside0.mk HC2s
       have KW := Aside0.mk HW2s
       have KS := Aside0.mk (And.intro hsz1 (And.intro hgw (And.intro hl24 hl25)))
       clear HN2s HB2s HR2s HD2s HC2s HW2s hsz1 hD0 hD1 hD2 hgw hl24 hl25
       clear hA' ho2 hb2 hle' hcur hnc' hcm' hsz' htk' N2 hg0 hg1)
    | (go_at_call 25
       refine C25.out.mono ?_
       rintro e w3 ⟨A2, c2', rfl, ho3, hb3⟩
       have hR3 : Rd w3 (some ⟨gb, 0, none⟩) D := Kd.C_below HR.out (KW.out.trans (hb3.mono KW.out.size))
       obtain ⟨w4, hcopy, ho4, hg4⟩ := copy_own (c := 128) ho3 hR3 (by rw [hD, Z_len]) (by rw [Z_len]; decide)
       rw [hD] at hcopy
       have N3 : Blk w3 w1.heap.size 69 #[.slice (some ⟨g', 0, none⟩) 2 c', .int .i64 (-1), .int .i64 0, .bool false] := KN.out.below hb3 KN.out.lt
       have R3 : Blk w3 (w.heap.size + 1) 24 zeroD := KR.out.below hb3 KR.out.lt
       have Q3 : Blk w3 g' 25 cur := KC.out.below hb3 KC.out.lt
       have C39 : Aside0 (Calls Try.prog 39 #[.pointer (some ⟨w1.heap.size, 0, none⟩)] w3 fun e w' => e = .returned (.int .i64 128) ∧ w3 = w') := ⟨room_any _ _ _ _ _ N3⟩
       have N4 := N3.grown hg4 (own_ne ho3 N3 (by decide))
       have R4 := R3.grown hg4 (own_ne ho3 R3 (by decide))
       have Q4 := Q3.grown hg4 (own_ne ho3 Q3 (by decide))
       obtain ⟨m0, m1, m2, m3⟩ := cells4 N4
       have hcur0 : cur[0]? = some (sl128 b0) := by
         have h1 : (cur.toList.take (2 * 1))[0]? = ([sl128 b0, sl128 b1] : List Value)[0]? := by rw [HCUR.out.2.1]
         rwa [List.getElem?_take_of_lt (by omega), Array.getElem?_toList] at h1
       have hcur1 : cur[1]? = some (sl128 b1) := by
         have h1 : (cur.toList.take (2 * 1))[1]? = ([sl128 b0, sl128 b1] : List Value)[1]? := by rw [HCUR.out.2.1]
         rwa [List.getElem?_take_of_lt (by omega), Array.getElem?_toList] at h1
       have o0 : w4.cell? ⟨g', 0, none⟩ = some (sl128 b0) := (Q4.cell 0).trans hcur0
       have fo := Q4.frozen 0
       have N5 := N4.far (p := ⟨g', 0, none⟩) (by have := KS.out.2.1; simp; omega) (.slice A2 128 c2')
       have R5 := R4.far (p := ⟨g', 0, none⟩) (by have := KS.out; simp; omega) (.slice A2 128 c2')
       have Q5 := Q4.set_ 0 (.slice A2 128 c2')
       obtain ⟨i0, i1, i2, i3⟩ := cells4 N5
       obtain ⟨j0, j1, j2, j3⟩ := cells4 R5
       have r0 := R5.frozen 0
       have r1 := R5.frozen 1
       have r2 := R5.frozen 2
       have r3 := R5.frozen 3
       have s15 := ((KD.out.s1.below hb3 KD.out.s1.lt).grown hg4 (fun e => by have := own_base ho3 b1 e.symm; have := KD.out.s1.lt; omega)).far (p := ⟨g', 0, none⟩) (by have := KS.out; have := HD.out.s1.lt; simp; omega) (.slice A2 128 c2')
       have ho5 : OwnB (w4.setCell ⟨g', 0, none⟩ (.slice A2 128 c2')) _ (.slice A2 128 c2') D := own_move ho4 (fun k hk => Below.heap_setCell w4 ⟨g', 0, none⟩ _ k (fun e => by have := own_base ho4 k hk; have := KC.out.lt; have e' : k = g' := e; omega))
       have W5 : Below w.heap.size w (w4.setCell ⟨g', 0, none⟩ (.slice A2 128 c2')) := ((KW.out.trans (hb3.mono KW.out.size)).grown hg4 (by have := hb3.size; have := KW.out.size; omega) (fun j e => by have := own_base ho3 j e; have := KW.out.size; omega)).setCell (p := ⟨g', 0, none⟩) (by have := KS.out; simp; omega) _
       have HF : Aside0 (Blk (w4.setCell ⟨g', 0, none⟩ (.slice A2 128 c2')) (w.heap.size + 1) 24 zeroD ∧ Blk (w4.setCell ⟨g', 0, none⟩ (.slice A2 128 c2')) g' 25 (cur.setIfInBounds 0 (.slice A2 128 c2')) ∧ (cur.setIfInBounds 0 (.slice A2 128 c2'))[0]? = some (.slice A2 128 c2') ∧ (cur.setIfInBounds 0 (.slice A2 128 c2'))[1]? = some (sl128 b1) ∧ Blk (w4.setCell ⟨g', 0, none⟩ (.slice A2 128 c2')) b1 5 (u8s Z) ∧ (∃ B, OwnB (w4.setCell ⟨g', 0, none⟩ (.slice A2 128 c2')) B (.slice A2 128 c2') D) ∧ Below w.heap.size w (w4.setCell ⟨g', 0, none⟩ (.slice A2 128 c2'))) :=
         ⟨R5, Q5, by
           have hs : 0 < cur.size := (Array.getElem?_eq_some_iff.1 hcur0).1
           simp [Array.getElem?_setIfInBounds, hs], by rw [Array.getElem?_setIfInBounds_ne (by decide)]; exact hcur1, s15, ⟨_, ho5⟩, W5⟩
       clear hR3 ho3 hb3 ho4 hg4 N3 R3 Q3 N4 R4 Q4 N5 R5 Q5 s15 ho5 W5 hcur0 hcur1)
    | (go_at_call 39; refine C39.out.mono ?_; rintro e w3' ⟨rfl, rfl⟩))
  obtain ⟨R5, Q5, k0, k1, s15, ⟨B, ho5⟩, W5⟩ := HF.out
  obtain ⟨q0, q1, q2, q3⟩ := cells4 (set4_blk R5 (.slice (some ⟨g', 0, none⟩) 2 c') (.int .i64 (-1)) (.int .i64 0) (.bool false))
  refine bodyPost_ret (v := .tuple #[.agg #[.slice (some ⟨g', 0, none⟩) 2 c', .int .i64 (-1), .int .i64 0, .bool false], .int .i64 0]) (by simp [results, Try.results29, go_sem, q0, q1, q2, q3]) rfl ?_
  have hne : g' ≠ w.heap.size + 1 := by have := KS.out; omega
  have hn1 : b1 ≠ w.heap.size + 1 := by have := HD.out.s1.lt; omega
  have ho6 : OwnB (set4 (w4.setCell ⟨g', 0, none⟩ (.slice A2 128 c2')) (w.heap.size + 1) (.slice (some ⟨g', 0, none⟩) 2 c') (.int .i64 (-1)) (.int .i64 0) (.bool false)) B (.slice A2 128 c2') D :=
    own_move ho5 (fun k hk => set4_other (fun e => own_ne ho5 R5 (by decide) (by rw [hk, e])) _ _ _ _)
  have Q6 : Blk (set4 (w4.setCell ⟨g', 0, none⟩ (.slice A2 128 c2')) (w.heap.size + 1) (.slice (some ⟨g', 0, none⟩) 2 c') (.int .i64 (-1)) (.int .i64 0) (.bool false)) g' 25 (cur.setIfInBounds 0 (.slice A2 128 c2')) := (set4_other hne _ _ _ _).trans Q5
  have S6 : Blk (set4 (w4.setCell ⟨g', 0, none⟩ (.slice A2 128 c2')) (w.heap.size + 1) (.slice (some ⟨g', 0, none⟩) 2 c') (.int .i64 (-1)) (.int .i64 0) (.bool false)) b1 5 (u8s Z) := (set4_other hn1 _ _ _ _).trans s15
  refine ⟨some ⟨g', 0, none⟩, c', rfl, HCUR.out.2.2.2, fun W' hW => ?_, set4_below W5 (by omega) _ _ _ _⟩
  have ho7 : OwnB W' B (.slice A2 128 c2') D := own_move ho6 (fun k hk => by
    rcases ho6.2 with ⟨_, hn⟩ | ⟨g6, cap6, cur6, e6, _, hg6, _⟩
    · rw [hD] at hn; cases hn
    · rw [e6] at hk
      obtain rfl : g6 = k := by simpa [Value.ownBlock] using hk
      exact hW _ _ _ hg6 (by decide) (by decide))
  have Q7 : Blk W' g' 25 (cur.setIfInBounds 0 (.slice A2 128 c2')) := (hW _ _ _ Q6 (by decide) (by decide)).trans Q6
  have S7 : Blk W' b1 5 (u8s Z) := (hW _ _ _ S6 (by decide) (by decide)).trans S6
  obtain ⟨A3, c3, hv3, hc3, hr3⟩ := ho7.rd
  obtain ⟨rfl, rfl⟩ : A2 = A3 ∧ c2' = c3 := by injection hv3 with h1 h2 h3; exact ⟨h1, h3⟩
  exact ls_two (s0 := D) (s1 := Z) (c0 := c2') (c1 := 128) (by rw [hD]; exact (Q7.cell 0).trans k0) (by rw [Z_len]; exact (Q7.cell 1).trans k1) hc3 (by rw [Z_len]; exact Nat.le_refl _) hr3 (S7.rd0 Z_len)
end Go.Proofs.Ytfoojamabjpdpaa.Wal
