import Derived.ArgAppend
import Derived.Test.YtfoojamabjpdpaaD2
/- The closed run: Clone, Clip, Append. -/
namespace Go.Proofs.Ytfoojamabjpdpaa.Wal
open Go.RowKit Go.Proofs.YtfoojamabjpdpaaW.PrintWords Go.Proofs.YtfoojamabjpdpaaW.PrintLast Go.Proofs.YtfoojamabjpdpaaW.PrintMore Go.Proofs.Ytfoojamabjpdpaa.PWalOpenSpec
attribute [local go_sem] max2_int min2_int max_two min_two max_three min_three max_four min_four
set_option linter.unusedVariables false
set_option linter.unusedSimpArgs false

theorem nil25 (ad : Addr) (n c : Nat) (W : World) : (binOp .eql 25 (.slice (some ad) n c) (.slice none 0 0)).run Try.prog W = .ok (.bool false) W := by rfl
theorem nil22 (ad : Addr) (n c : Nat) (W : World) : (binOp .eql 22 (.slice (some ad) n c) (.slice none 0 0)).run Try.prog W = .ok (.bool false) W := by rfl
set_option maxRecDepth 100000 in
theorem Clone25 (b : List Int) (ad : Addr) (c : Nat) (w : World) (h : Rd w (some ad) b) (hl : b.length ≤ 65536) :
    Calls Try.prog 25 #[.slice (some ad) b.length c] w fun e w' => ∃ A' c', e = .returned (.slice A' b.length c') ∧ OwnB w' w.heap.size (.slice A' b.length c') b ∧ Below w.heap.size w w' := by
  have hb : Below w.heap.size w (w.alloc (.cells #[] 5)) := (Below.refl _ w).alloc (Nat.le_refl _) _
  obtain ⟨v', W', hrun, ho, hg, _⟩ := append_u8 (c := c) (own_empty w) (Kd.C_below h hb) (by simp) (by simp; omega)
  have HO := Aside0.mk ho
  have HB := Aside0.mk (hb.grown hg hb.size (fun j e => own_base (own_empty w) j e))
  have hnil := nil25 ad b.length c
  clear h ho hg hb
  go_enter Try.func25, Try.ntmps25
  go_wp2_with (at_builtin; refine wpList_append_run rfl (.tmp 5) (.tmp 6) 25 25 rfl rfl _ _ _ rfl rfl hrun ?_)
  go_ret
  have HO' := HO.out
  rw [List.nil_append] at HO'
  obtain ⟨A', c', rfl, _, _⟩ := HO'.rd
  exact ⟨A', c', rfl, HO', HB.out⟩

theorem Clip0 (A : Option Addr) (c : Nat) (w : World) : Calls Try.prog 24 #[.slice A 0 c] w fun e w' => e = .returned (.slice A 0 0) ∧ w = w' := by
  go_enter Try.func24, Try.ntmps24
  go_wp2
  go_ret
  exact ⟨rfl, rfl⟩

/-- What an Append of "ab" hands back. -/
def AB : List (List Int) := [[97, 98]]
theorem Ls.one {w : World} {base : Nat} {v x : Value} {s : List Int} {B : Option Addr} {cb : Nat} (h : w.ownsRow base 25 1 v 1 [x]) (hx : x = .slice B s.length cb) (hc : s.length ≤ cb) (hr : Rd w B s) : ∃ A c, v = .slice A 1 c ∧ 1 ≤ c ∧ Ls w A [s] := by
  subst hx
  rcases h.2 with ⟨rfl, hn⟩ | ⟨g, cap, cur, rfl, _, hg, hnc, hcm, hsz, htk⟩
  · cases hn
  · refine ⟨_, cap, rfl, hnc, Ls.of (fun k hk => ?_) (by simp)⟩
    obtain rfl : k = 0 := by simp at hk; omega
    refine ⟨B, cb, ?_, hc, hr⟩
    rw [show (⟨g, 0, none⟩ : Addr).add 0 = ⟨g, 0, none⟩ by rfl, cell_of_row w g 0 cur 25 (0, 0) hg]
    have h1 : (cur.toList.take (1 * 1))[0]? = ([Value.slice B s.length cb] : List Value)[0]? := by rw [htk]
    rw [List.getElem?_take_of_lt (by omega)] at h1
    rw [← Array.getElem?_toList, h1]
    rfl

set_option maxHeartbeats 4000000 in
set_option maxRecDepth 100000 in
theorem Append113 (A : Option Addr) (c : Nat) (B : Option Addr) (cb : Nat) (w : World) (hr : Ls w A []) :
    Calls Try.prog 12 #[.agg #[.int .i64 0, .int .i64 1, .slice A 0 c, .int .i64 0], .slice B 113 cb] w fun e w' => e = .returned (.tuple #[.agg #[.int .i64 0, .int .i64 0, .slice none 0 0, .int .i64 0], .int .i64 2]) ∧ Below w.heap.size w w' := by
  have hb : Below w.heap.size w ((w.alloc (.cells #[.int .i64 0, .int .i64 1, .slice A 0 c, .int .i64 0] 29)).alloc (.cells zeroLog 29)) := ((Below.refl _ w).alloc (Nat.le_refl _) _).alloc (by simp) _
  have hB := (Blk.new w 29 #[.int .i64 0, .int .i64 1, .slice A 0 c, .int .i64 0]).alloc (.cells zeroLog 29)
  have hR : Blk ((w.alloc (.cells #[.int .i64 0, .int .i64 1, .slice A 0 c, .int .i64 0] 29)).alloc (.cells zeroLog 29)) (w.heap.size + 1) 29 zeroLog := by
    have := Blk.new (w.alloc (.cells #[.int .i64 0, .int .i64 1, .slice A 0 c, .int .i64 0] 29)) 29 zeroLog
    rwa [World.size_alloc] at this
  have C0 : Aside0 (Calls Try.prog 21 #[.agg #[.int .i64 0, .int .i64 1, .slice A 0 c, .int .i64 0]] ((w.alloc (.cells #[.int .i64 0, .int .i64 1, .slice A 0 c, .int .i64 0] 29)).alloc (.cells zeroLog 29)) fun e w1 => e = .returned (.int .i64 0) ∧ Blk w1 w.heap.size 29 #[.int .i64 0, .int .i64 1, .slice A 0 c, .int .i64 0] ∧ Blk w1 (w.heap.size + 1) 29 zeroLog ∧ Below w.heap.size w w1) :=
    ⟨(wCheck_few [] A c _ (Kd.C_below hr hb) (.inl rfl)).mono fun e w1 h => ⟨h.1, hB.below h.2 hB.lt, hR.below h.2 hR.lt, hb.trans (h.2.mono hb.size)⟩⟩
  have C1 : Aside0 (∀ w1 : World, Below w.heap.size w w1 → ∀ n, Calls Try.prog 23 #[.slice A 0 c] (w1.drewN n) fun e w' => e = .returned (.int .i64 0) ∧ w1.drewN n = w') :=
    ⟨fun w1 h1 n => used_few [] A c _ (Kd.C_below hr (pw_below_drewN h1 n)) (.inl rfl)⟩
  clear hr hb hB hR
  go_enter Try.func12, Try.ntmps12
  go_wp2_with (go_at_call 21; refine C0.out.mono ?_; rintro e w1 ⟨rfl, hB1, hR1, hb1⟩; obtain ⟨z0, z1, z2, z3⟩ := cells4 hB1; obtain ⟨y0, y1, y2, y3⟩ := zeroLog0 hR1; have f0 := hR1.frozen 0; have f1 := hR1.frozen 1; have f2 := hR1.frozen 2; have f3 := hR1.frozen 3; have HR1 := Aside0.mk hR1; have HB1 := Aside0.mk hb1; clear hB1 hb1 hR1)
  go_quiet ((first | (go_at_call 23; exact quiet_left (C1.out _ HB1.out _)) | (go_at_call 22; exact quiet_left (sectors113 _ _ _))))
  go_wp2
  obtain ⟨q0, q1, q2, q3⟩ := cells4 (set4_blk (HR1.out.drewN nq) (.int .i64 0) (.int .i64 0) (.slice none 0 0) (.int .i64 0))
  refine bodyPost_ret (v := .tuple #[.agg #[.int .i64 0, .int .i64 0, .slice none 0 0, .int .i64 0], .int .i64 2]) (by simp [results, Try.results12, go_sem, q0, q1, q2, q3]) rfl ?_
  exact ⟨rfl, set4_below (pw_below_drewN HB1.out nq) (by omega) _ _ _ _⟩

/-- A row laid behind none, where there is no room. -/
theorem app_row0 {W : World} {base : Nat} {vb : Value} {A : Option Addr} {b : List Int} (HB : OwnB W base vb b) (hbase : base ≤ W.heap.size) :
    ∃ v1 w1, (Builtin.append_ #[22, 22] 22 #[.slice A 0 0, .slice (some ⟨W.heap.size, 0, none⟩) 1 1]).run Try.prog (W.alloc (.cells #[vb] 25)) = .ok v1 w1 ∧ OwnL w1 base v1 [b] ∧ W.grownBy w1 none := by
  rcases A with _ | ad
  · exact app_row (v := .slice none 0 0) (outs := []) (Kd.R_nil _ _ _ _ _) HB hbase (by decide)
  obtain ⟨i, hi, hzz⟩ := Option.map_eq_some_iff.1 info25
  simp only [Prod.mk.injEq] at hzz
  obtain ⟨hz0, hz1, hz2⟩ := hzz
  obtain ⟨Ab, cb, rfl, _, _⟩ := HB.rd
  obtain ⟨v', W', hrun, h2, h3⟩ := run_append_arg_grows (P := Try.prog) (W.alloc (.cells #[.slice Ab b.length cb] 25)) 22 22 25 i (.slice none 0 0) 1 24 Try.underlying22 hi hz0 hz1 hz2 rfl (by omega) ad 0 0 [] rfl (by simp) ⟨W.heap.size, 0, none⟩ 1 1 [.slice Ab b.length cb] rfl
    (World.news_of_block (cs := #[.slice Ab b.length cb]) (t := 25) (fr := (0, 0)) (heap_alloc_new W _)) (by omega) (by simp only [maxLen]; omega) (by omega)
  have hg : W.grownBy W' none := World.grownBy.trans (World.grownBy_alloc W _ _) h3
  have hown : W'.ownsRow base 25 1 v' 1 [.slice Ab b.length cb] := ⟨h2.1, h2.2.imp id (fun ⟨g, cap, cur, e, hle, r⟩ => ⟨g, cap, cur, e, by simp at hle; omega, r⟩)⟩
  refine ⟨v', W', hrun, Kd.R_appended (v := .slice none 0 0) (xs := []) (inner := []) (fun _ _ => trivial) (Reps.none _ _) ⟨_, rfl, Kd.R_apart_nil HB.R⟩ (fun k hk => ⟨trivial, hk.2⟩) (fun _ _ => trivial) hown hg (.inr ?_), hg⟩
  rcases h2.2 with ⟨_, hn⟩ | ⟨g, cap, cur, rfl, hle, _⟩
  · cases hn
  · exact ⟨g, rfl, by simp at hle; omega⟩

set_option maxHeartbeats 4000000 in
set_option maxRecDepth 100000 in
theorem Append2 (A : Option Addr) (c : Nat) (ad : Addr) (cb : Nat) (w : World) (hr : Ls w A []) (hrd : Rd w (some ad) [97, 98]) :
    Calls Try.prog 12 #[.agg #[.int .i64 0, .int .i64 1, .slice A 0 c, .int .i64 0], .slice (some ad) 2 cb] w fun e w' => ∃ A1 c1, e = .returned (.tuple #[.agg #[.int .i64 0, .int .i64 1, .slice A1 1 c1, .int .i64 0], .int .i64 0]) ∧ 1 ≤ c1 ∧ Ls w' A1 AB ∧ Below w.heap.size w w' := by
  have hb : Below w.heap.size w ((w.alloc (.cells #[.int .i64 0, .int .i64 1, .slice A 0 c, .int .i64 0] 29)).alloc (.cells zeroLog 29)) := ((Below.refl _ w).alloc (Nat.le_refl _) _).alloc (by simp) _
  have hB := (Blk.new w 29 #[.int .i64 0, .int .i64 1, .slice A 0 c, .int .i64 0]).alloc (.cells zeroLog 29)
  have hR : Blk ((w.alloc (.cells #[.int .i64 0, .int .i64 1, .slice A 0 c, .int .i64 0] 29)).alloc (.cells zeroLog 29)) (w.heap.size + 1) 29 zeroLog := by
    have := Blk.new (w.alloc (.cells #[.int .i64 0, .int .i64 1, .slice A 0 c, .int .i64 0] 29)) 29 zeroLog
    rwa [World.size_alloc] at this
  have C0 : Aside0 (Calls Try.prog 21 #[.agg #[.int .i64 0, .int .i64 1, .slice A 0 c, .int .i64 0]] ((w.alloc (.cells #[.int .i64 0, .int .i64 1, .slice A 0 c, .int .i64 0] 29)).alloc (.cells zeroLog 29)) fun e w1 => e = .returned (.int .i64 0) ∧ Blk w1 w.heap.size 29 #[.int .i64 0, .int .i64 1, .slice A 0 c, .int .i64 0] ∧ Blk w1 (w.heap.size + 1) 29 zeroLog ∧ Below w.heap.size w w1) :=
    ⟨(wCheck_few [] A c _ (Kd.C_below hr hb) (.inl rfl)).mono fun e w1 h => ⟨h.1, hB.below h.2 hB.lt, hR.below h.2 hR.lt, hb.trans (h.2.mono hb.size)⟩⟩
  have C1 : Aside0 (∀ w1 : World, Below w.heap.size w w1 → ∀ n, Calls Try.prog 23 #[.slice A 0 c] (w1.drewN n) fun e w' => e = .returned (.int .i64 0) ∧ w1.drewN n = w') :=
    ⟨fun w1 h1 n => used_few [] A c _ (Kd.C_below hr (pw_below_drewN h1 n)) (.inl rfl)⟩
  have C2 : Aside0 (∀ w1 : World, Below w.heap.size w w1 → Calls Try.prog 25 #[.slice (some ad) 2 cb] w1 fun e w' => ∃ A' c', e = .returned (.slice A' 2 c') ∧ OwnB w' w1.heap.size (.slice A' 2 c') [97, 98] ∧ Below w1.heap.size w1 w') :=
    ⟨fun w1 h1 => Clone25 [97, 98] ad cb w1 (Kd.C_below hrd h1) (by decide)⟩
  clear hr hb hB hR hrd
  go_enter Try.func12, Try.ntmps12
  go_wp2_with (go_at_call 21; refine C0.out.mono ?_; rintro e w1 ⟨rfl, hB1, hR1, hb1⟩; obtain ⟨z0, z1, z2, z3⟩ := cells4 hB1; obtain ⟨y0, y1, y2, y3⟩ := zeroLog0 hR1; have f0 := hR1.frozen 0; have f1 := hR1.frozen 1; have f2 := hR1.frozen 2; have f3 := hR1.frozen 3; have HB1 := Aside0.mk hB1; have HR1 := Aside0.mk hR1; have HBW := Aside0.mk hb1; clear hB1 hb1 hR1)
  go_quiet ((first | (go_at_call 23; exact quiet_left (C1.out _ HBW.out _)) | (go_at_call 22; exact quiet_left (sectors2 _ _ _))))
  have HW2 : Aside0 (Below w.heap.size w (w1.drewN nq)) := ⟨pw_below_drewN HBW.out nq⟩
  have HB2 : Aside0 (Blk (w1.drewN nq) w.heap.size 29 #[.int .i64 0, .int .i64 1, .slice A 0 c, .int .i64 0]) := ⟨HB1.out.drewN nq⟩
  have HR2 : Aside0 (Blk (w1.drewN nq) (w.heap.size + 1) 29 zeroLog) := ⟨HR1.out.drewN nq⟩
  go_wp2_with (first
    | (go_at_call 24; refine (Clip0 _ _ _).mono ?_; rintro e w2 ⟨rfl, rfl⟩)
    | (go_at_call 25
       refine (C2.out _ HW2.out).mono ?_
       rintro e w3 ⟨Ab, cb', rfl, hob, hb3⟩
       obtain ⟨v1, w4, hrun, ho4, hg4⟩ := app_row0 (A := A) (hob.lower HW2.out.size) (by have := hb3.size; have := HW2.out.size; omega)
       obtain ⟨A1, c1, rfl, hc1, hl1⟩ := ho4.ls
       have B3 := (HB2.out.below hb3 HB2.out.lt).grown hg4 (by simp)
       have R3 := (HR2.out.below hb3 HR2.out.lt).grown hg4 (by simp)
       have HO4 := Aside0.mk ho4
       have HW4 := Aside0.mk ((HW2.out.trans (hb3.mono HW2.out.size)).grown hg4 (by have := hb3.size; have := HW2.out.size; omega) (fun j e => by cases e))
       obtain ⟨x0, x1, x2, x3⟩ := cells4 B3
       obtain ⟨u0, u1, u2, u3⟩ := zeroLog0 R3
       have g2 := B3.frozen 2
       have h0 := R3.frozen 0
       have h1 := R3.frozen 1
       have h2 := R3.frozen 2
       have h3 := R3.frozen 3
       have HB3 := Aside0.mk B3
       have HR3 := Aside0.mk R3
       clear hob hb3 ho4 hg4 B3 R3 hl1)
    | (at_builtin; refine wpList_append_run rfl (.tmp 30) (.tmp 33) 22 22 rfl rfl _ _ _ rfl rfl hrun ?_))
  have R4 : Blk (w4.setCell ⟨w.heap.size, 2, none⟩ (.slice A1 1 c1)) (w.heap.size + 1) 29 #[.int .i64 0, .int .i64 0, .slice none 0 0, .int .i64 0] := HR3.out.far (p := ⟨w.heap.size, 2, none⟩) (by simp) _
  obtain ⟨q0, q1, q2, q3⟩ := cells4 (set4_blk R4 (.int .i64 0) (.int .i64 1) (.slice A1 1 c1) (.int .i64 0))
  refine bodyPost_ret (v := .tuple #[.agg #[.int .i64 0, .int .i64 1, .slice A1 1 c1, .int .i64 0], .int .i64 0]) (by simp [results, Try.results12, go_sem, q0, q1, q2, q3]) rfl ?_
  obtain ⟨A3, c3, hv3, hc3, hl3⟩ := ((HO4.out.set HB3.out 2 (.slice A1 1 c1)).set4 R4 (.int .i64 0) (.int .i64 1) (.slice A1 1 c1) (.int .i64 0)).ls
  obtain ⟨rfl, rfl⟩ : A1 = A3 ∧ c1 = c3 := by injection hv3 with h1 h2 h3; exact ⟨h1, h3⟩
  exact ⟨A1, c1, rfl, hc3, hl3, set4_below (HW4.out.setCell (p := ⟨w.heap.size, 2, none⟩) (Nat.le_refl _) _) (by omega) _ _ _ _⟩
end Go.Proofs.Ytfoojamabjpdpaa.Wal
