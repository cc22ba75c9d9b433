import Derived.OpenShut
import Derived.Test.YtfoojamabjpdpaaE0
import Derived.Test.YtfoojamabjpdpaaE1
/- The law's walk, and how its arguments read. -/
namespace Go.Proofs.Ytfoojamabjpdpaa.Wal
open Go.RowKit Go.Proofs.YtfoojamabjpdpaaW.PrintWords Go.Proofs.YtfoojamabjpdpaaW.PrintLast Go.Proofs.YtfoojamabjpdpaaW.PrintMore Go.Proofs.Ytfoojamabjpdpaa.PWalOpenSpec
attribute [local go_sem] max2_int min2_int max_two min_two max_three min_three max_four min_four
set_option linter.unusedVariables false
set_option linter.unusedSimpArgs false

theorem rec1_n8 {L : List (List Int)} (hL : Secs L) {a : Nat} {b : List Int} {n : Nat} (h : rec1 L a = some (b, n)) : N8 b :=
  (recGo_len L hL a _ _ _ _ _ h (by simp) (by intro x hx; simp at hx)).2
theorem recsGo_n8 (L : List (List Int)) (hL : Secs L) : ∀ f a last, (∀ s ∈ recsGo L f a last, N8 s) ∧ (recsGo L f a last).length ≤ f
  | 0, _, _ => ⟨by intro s hs; simp [recsGo] at hs, by simp [recsGo]⟩
  | f + 1, a, last => by
    rw [recsGo]
    cases hr : rec1 L a with
    | none => exact ⟨by intro s hs; simp at hs, by simp⟩
    | some x =>
      obtain ⟨b, n⟩ := x
      simp only
      split
      · exact ⟨by intro s hs; simp at hs, by simp⟩
      · obtain ⟨h1, h2⟩ := recsGo_n8 L hL f (a + n) (gen (gl L a))
        refine ⟨fun s hs => ?_, by simp only [List.length_cons]; omega⟩
        rcases List.mem_cons.1 hs with rfl | hs
        · exact rec1_n8 hL hr
        · exact h1 s hs
theorem openS_n8 (L : List (List Int)) (left tear : Int) (st : Bool) (first many : Int) (hb : ∀ s ∈ L, N8 s) : (∀ s ∈ (openS L left tear st first many).2.2.1, N8 s) ∧ (openS L left tear st first many).2.2.1.length ≤ 140737488351232 := by
  rw [openS]
  split
  · exact ⟨by intro s hs; simp at hs, by simp⟩
  split
  · exact ⟨by intro s hs; simp at hs, by simp⟩
  split
  · exact ⟨by intro s hs; simp at hs, by simp⟩
  · rename_i h1 _ _
    have hS := (secs_of (by simpa using h1) hb).part first.toNat (first + many).toNat
    obtain ⟨h2, h3⟩ := recsGo_n8 _ hS (((L.take (first + many).toNat).drop first.toNat).length + 1) 0 0
    exact ⟨h2, by have := hS.1; show (recsGo _ _ _ _).length ≤ _; omega⟩
theorem ls_single {w : World} {B : Option Addr} {b : List Int} {cb : Nat} (h : Rd w B b) (hc : b.length ≤ cb) : Ls (w.alloc (.cells #[.slice B b.length cb] 25)) (some ⟨w.heap.size, 0, none⟩) [b] :=
  Ls.of (fun k hk => by
    obtain rfl : k = 0 := by simp at hk; omega
    exact ⟨B, cb, (Blk.new w 25 #[.slice B b.length cb]).cell 0, hc, Kd.C_below h ((Below.refl _ w).alloc (Nat.le_refl _) _)⟩) (by simp)
theorem cnt_one (b : List Int) : cnt [b] = 1 + (b.length : Int) := by simp [cnt]

/-- What lies while the law runs. -/
structure TL (w : World) (D : Array Value) (W : World) : Prop where
  box : Blk W w.heap.size 24 D
  below : Below w.heap.size w W
theorem TL.on {w : World} {D : Array Value} {W W' : World} (h : TL w D W) (hb : Below W.heap.size W W') : TL w D W' :=
  ⟨h.box.below hb h.box.lt, h.below.trans (hb.mono h.below.size)⟩
theorem TL.alloc {w : World} {D : Array Value} {W : World} (h : TL w D W) (o : Obj) : TL w D (W.alloc o) := h.on ((Below.refl _ W).alloc (Nat.le_refl _) o)
theorem TL.start (w : World) (D : Array Value) : TL w D (w.alloc (.cells D 24)) := ⟨Blk.new w 24 D, (Below.refl _ w).alloc (Nat.le_refl _) _⟩

set_option maxHeartbeats 8000000 in
set_option maxRecDepth 100000 in
theorem law_true (L : List (List Int)) (left tear : Int) (st : Bool) (first many : Int) (b : List Int) (A B : Option Addr) (c cb : Nat) (w : World) (h : Ls w A L) (hL : ∀ s ∈ L, N8 s) (hc : L.length ≤ c)
    (hr : Rd w B b) (hb : N8 b) (hcb : b.length ≤ cb) (hbl : b.length ≤ 140737488351232)
    (hf : -9223372036854775808 ≤ first ∧ first ≤ 9223372036854775807) (hm : -9223372036854775808 ≤ many ∧ many ≤ 9223372036854775807) :
    Calls Try.prog 3 #[.agg #[.slice A L.length c, .int .i64 left, .int .i64 tear, .bool st], .int .i64 first, .int .i64 many, .slice B b.length cb] w fun e w' => e = .returned (.bool true) ∧ Below w.heap.size w w' := by
  have HT0 := Aside0.mk (TL.start w (boxD L left tear st A c))
  have C4 : Aside0 (∀ W, TL w (boxD L left tear st A c) W → Calls Try.prog 4 #[] W fun e w' => e = .returned (.bool true) ∧ TL w (boxD L left tear st A c) w') :=
    ⟨fun W hT => (sane_true W).mono fun e w' hh => ⟨hh.1, hT.on hh.2⟩⟩
  obtain ⟨ok, hok⟩ : ∃ ok : Bool, (decide (L.length ≤ 40) && decide (cnt [b] ≤ 4000)) = ok := ⟨_, rfl⟩
  have C5 : Aside0 (∀ W, TL w (boxD L left tear st A c) W → Calls Try.prog 5 #[.agg #[.slice A L.length c, .int .i64 left, .int .i64 tear, .bool st], .slice (some ⟨W.heap.size, 0, none⟩) 1 1] (W.alloc (.cells #[.slice B b.length cb] 25)) fun e w' => e = .returned (.bool ok) ∧ TL w (boxD L left tear st A c) w') := ⟨fun W hT => by
    have := few_all L.length left tear st [b] A (some ⟨W.heap.size, 0, none⟩) c 1 (W.alloc (.cells #[.slice B b.length cb] 25)) (ls_single (Kd.C_below hr hT.below) hcb) (by simp) (by intro x hx; simp at hx; subst hx; exact hbl)
    rw [hok] at this
    exact this.mono fun e w' hh => ⟨hh.1, (hT.alloc _).on hh.2⟩⟩
  obtain ⟨f, m, X, er, hop⟩ : ∃ f m X er, openS L left tear st first many = (f, m, X, er) := ⟨_, _, _, _, rfl⟩
  have hX := openS_n8 L left tear st first many hL
  rw [hop] at hX
  have C6 : ok = true → Aside0 (∀ W, TL w (boxD L left tear st A c) W → Calls Try.prog 6 #[.agg #[.slice A L.length c, .int .i64 left, .int .i64 tear, .bool st], .int .i64 first, .int .i64 many] W fun e w' => ∃ A1 c1, e = .returned (.tuple #[.agg #[.int .i64 f, .int .i64 m, .slice A1 X.length c1, .int .i64 X.length], .int .i64 er]) ∧ Ls w' A1 X ∧ TL w (boxD L left tear st A c) w') := fun ht => ⟨fun W hT => by
    rw [← hok, Bool.and_eq_true, decide_eq_true_iff] at ht
    have := wOpen_any L left tear st first many A c W (Kd.C_below h hT.below) hL hc (by omega) hf hm
    rw [hop] at this
    refine this.mono fun e w' hh => ?_
    obtain ⟨A1, c1, he, _, hl, hb'⟩ := hh
    exact ⟨A1, c1, he, hl, hT.on hb'⟩⟩
  have C7 : ok = true → Aside0 (∀ W, TL w (boxD L left tear st A c) W → Calls Try.prog 7 #[.agg #[.slice A L.length c, .int .i64 left, .int .i64 tear, .bool st], .int .i64 first, .int .i64 many] W fun e w' => ∃ A1 c1, e = .returned (.tuple #[.agg #[.int .i64 f, .int .i64 m, .slice A1 X.length c1, .int .i64 X.length], .int .i64 er]) ∧ Ls w' A1 X ∧ TL w (boxD L left tear st A c) w' ∧ Below W.heap.size W w') := fun ht => ⟨fun W hT => by
    rw [← hok, Bool.and_eq_true, decide_eq_true_iff] at ht
    have := rOpen_any L left tear st first many A c W (Kd.C_below h hT.below) hL hc (by omega) hf hm
    rw [hop] at this
    refine this.mono fun e w' hh => ?_
    obtain ⟨A1, c1, he, _, hl, hb'⟩ := hh
    exact ⟨A1, c1, he, hl, hT.on hb', hb'⟩⟩
  have C9 : Aside0 (∀ W, TL w (boxD L left tear st A c) W → Calls Try.prog 9 #[.slice B b.length cb] W fun e w' => e = .returned (.int .u32 (crc b)) ∧ W = w') := ⟨fun W hT => Sum_any b B cb W (Kd.C_below hr hT.below) hb hbl⟩
  have C10 : Aside0 (∀ W, TL w (boxD L left tear st A c) W → Calls Try.prog 10 #[.slice B b.length cb] W fun e w' => e = .returned (.int .u32 (crc b)) ∧ W = w') := ⟨fun W hT => rSum_any b B cb W (Kd.C_below hr hT.below) hb hbl⟩
  have C8 : Aside0 (∀ W A1 A2 c1 c2, TL w (boxD L left tear st A c) W → Ls W A1 X → Ls W A2 X → Calls Try.prog 8 #[.agg #[.int .i64 f, .int .i64 m, .slice A1 X.length c1, .int .i64 X.length], .agg #[.int .i64 f, .int .i64 m, .slice A2 X.length c2, .int .i64 X.length]] W fun e w' => e = .returned (.bool true) ∧ TL w (boxD L left tear st A c) w') :=
    ⟨fun W A1 A2 c1 c2 hT h1 h2 => (Same_eq f m X.length X A1 A2 c1 c2 W h1 h2 hX.1 hX.2).mono fun e w' hh => ⟨hh.1, hT.on hh.2⟩⟩
  obtain ⟨z, hz⟩ : ∃ z, crc b = z := ⟨_, rfl⟩
  rw [hz] at C9 C10
  clear hz h hL hc hr hb hcb hbl hf hm hX hop hok
  cases ok
  · clear C6 C7 C8 C9 C10
    go_enter Try.func3, Try.ntmps3
    go_wp2_with (first
      | (go_at_call 4; refine (C4.out _ HT0.out).mono ?_; rintro e w1 ⟨rfl, hT1⟩; obtain ⟨z0, z1, z2, z3⟩ := box0 hT1.box; have HT1 := Aside0.mk hT1; obtain ⟨y0, y1, y2, y3⟩ := box0 (hT1.alloc (.cells #[.slice B b.length cb] 25)).box; clear hT1)
      | (go_at_call 5; refine (C5.out _ HT1.out).mono ?_; rintro e w2 ⟨rfl, hT2⟩; have HT2 := Aside0.mk hT2; clear hT2))
    go_ret
    exact ⟨rfl, HT2.out.below⟩
  · replace C6 := C6 rfl
    replace C7 := C7 rfl
    go_enter Try.func3, Try.ntmps3
    go_wp2_with (first
      | (go_at_call 4; refine (C4.out _ HT0.out).mono ?_; rintro e w1 ⟨rfl, hT1⟩; obtain ⟨z0, z1, z2, z3⟩ := box0 hT1.box; have HT1 := Aside0.mk hT1; obtain ⟨y0, y1, y2, y3⟩ := box0 (hT1.alloc (.cells #[.slice B b.length cb] 25)).box; clear hT1)
      | (go_at_call 5; refine (C5.out _ HT1.out).mono ?_; rintro e w2 ⟨rfl, hT2⟩; obtain ⟨x0, x1, x2, x3⟩ := box0 hT2.box; have HT2 := Aside0.mk hT2; clear hT2 z0 z1 z2 z3 y0 y1 y2 y3)
      | (go_at_call 6; refine (C6.out _ HT2.out).mono ?_; rintro e w3 ⟨A1, c1, rfl, hl3, hT3⟩; have hT3' := hT3.alloc (.cells #[.int .i64 f, .int .i64 m, .slice A1 X.length c1, .int .i64 X.length] 29); obtain ⟨u0, u1, u2, u3⟩ := box0 hT3'.box; have HB3 := Aside0.mk (Blk.new w3 29 #[.int .i64 f, .int .i64 m, .slice A1 X.length c1, .int .i64 X.length]); have HL3 := Aside0.mk (Kd.C_below hl3 ((Below.refl _ w3).alloc (Nat.le_refl _) (.cells #[.int .i64 f, .int .i64 m, .slice A1 X.length c1, .int .i64 X.length] 29))); have HT3 := Aside0.mk hT3'; clear hT3 hT3' hl3 x0 x1 x2 x3)
      | (go_at_call 7; refine (C7.out _ HT3.out).mono ?_; rintro e w4 ⟨A2, c2, rfl, hl4, hT4, hb4⟩; have hB4 := (HB3.out.below hb4 HB3.out.lt).alloc (.cells #[.int .i64 f, .int .i64 m, .slice A2 X.length c2, .int .i64 X.length] 29); obtain ⟨t0, t1, t2, t3⟩ := cells4 hB4; obtain ⟨s0, s1, s2, s3⟩ := cells4 (Blk.new w4 29 #[.int .i64 f, .int .i64 m, .slice A2 X.length c2, .int .i64 X.length]); have hab := (Below.refl w4.heap.size w4).alloc (Nat.le_refl _) (.cells #[.int .i64 f, .int .i64 m, .slice A2 X.length c2, .int .i64 X.length] 29); have HLA := Aside0.mk (Kd.C_below (Kd.C_below HL3.out hb4) hab); have HLB := Aside0.mk (Kd.C_below hl4 hab); have HT4 := Aside0.mk (hT4.alloc (.cells #[.int .i64 f, .int .i64 m, .slice A2 X.length c2, .int .i64 X.length] 29)); clear hl4 hT4 hb4 hB4 hab u0 u1 u2 u3)
      | (go_at_call 8; refine (C8.out _ _ _ _ _ HT4.out HLA.out HLB.out).mono ?_; rintro e w5 ⟨rfl, hT5⟩; have HT5 := Aside0.mk hT5; clear hT5)
      | (go_at_call 9; refine (C9.out _ HT5.out).mono ?_; rintro e w6 ⟨rfl, rfl⟩)
      | (go_at_call 10; refine (C10.out _ HT5.out).mono ?_; rintro e w7 ⟨rfl, rfl⟩))
    go_ret
    exact ⟨rfl, HT5.out.below⟩
/-- A row of rows that came in. -/
theorem ls_of_rows {W : World} {a : Addr} {len cap : Nat} {A : Nat → Option Addr} {N C : Nat → Nat} {Z : Nat → List Int} (hl : len ≤ cap) (hcm : cap ≤ maxLen)
    (hall : ∀ r, r < cap → W.cell? (a.add r) = some (.slice (A r) (N r) (C r)) ∧ N r ≤ C r ∧ C r ≤ maxLen ∧ (Z r).length = C r ∧ (∀ n ∈ Z r, (Lit.int .u8 n).wf = true) ∧ (A r = none → C r = 0) ∧
      ∀ a', A r = some a' → 0 ≤ a'.block ∧ ∀ c, c < C r → W.cell? (a'.add c) = some (.int .u8 ((Z r).getD c 0))) :
    Ls W (some a) ((List.range len).map fun r => (Z r).take (N r)) ∧ ∀ s ∈ (List.range len).map (fun r => (Z r).take (N r)), N8 s := by
  have hg : ∀ k, k < len → gl ((List.range len).map fun r => (Z r).take (N r)) k = (Z k).take (N k) := fun k hk => by
    rw [gl_eq _ _ (by simpa using hk)]; simp
  refine ⟨Ls.of (fun k hk => ?_) (by simp [maxLen] at hcm ⊢; omega), fun s hs => ?_⟩
  · have hk' : k < len := by simpa using hk
    obtain ⟨h1, h2, h3, h4, h5, h6, h7⟩ := hall k (by omega)
    have hlen : ((Z k).take (N k)).length = N k := by rw [List.length_take]; omega
    rw [hg k hk', hlen]
    refine ⟨A k, C k, h1, h2, ?_⟩
    cases hA : A k with
    | none =>
      have : N k = 0 := by have := h6 hA; omega
      rw [this, List.take_zero]
      exact Kd.C_nil _ _
    | some a' =>
      refine Rd.of (fun j hj => ?_) (by rw [hlen]; simp only [maxLen] at h3; omega)
      rw [hlen] at hj
      rw [(h7 a' hA).2 j (by omega), gd_take _ _ _ hj]
      rfl
  · obtain ⟨r, hr, rfl⟩ := List.mem_map.1 hs
    have hr' : r < len := List.mem_range.1 hr
    obtain ⟨_, _, _, _, h5, _, _⟩ := hall r (by omega)
    intro x hx
    exact bounds_u8 (h5 x (List.mem_of_mem_take hx))
end Go.Proofs.Ytfoojamabjpdpaa.Wal
