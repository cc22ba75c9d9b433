import Derived.Test.YtfoojamabjpdpaaB8
import Derived.Test.YtfoojamabjpdpaaA3
/- The reference's Open. -/
namespace Go.Proofs.Ytfoojamabjpdpaa.Wal
open Go.RowKit Go.Proofs.YtfoojamabjpdpaaW.PrintWords Go.Proofs.YtfoojamabjpdpaaW.PrintLast Go.Proofs.YtfoojamabjpdpaaW.PrintMore Go.Proofs.Ytfoojamabjpdpaa.PWalOpenSpec
attribute [local go_sem] max2_int min2_int max_two min_two max_three min_three max_four min_four
set_option linter.unusedVariables false
set_option linter.unusedSimpArgs false

theorem Ls.of {w : World} {ad : Addr} {L : List (List Int)} (h : ∀ k, k < L.length → ∃ B c, w.cell? (ad.add k) = some (.slice B (gl L k).length c) ∧ (gl L k).length ≤ c ∧ Rd w B (gl L k)) (hl : L.length ≤ 9223372036854775807) : Ls w (some ad) L :=
  ⟨rfl, hl, fun _ => ⟨_, rfl, fun j p hp => by
    have hj : j < L.length := (List.getElem?_eq_some_iff.1 hp).1
    have hg : gl L j = p := by rw [gl, List.getD_eq_getElem?_getD, hp, Option.getD_some]
    obtain ⟨B, c, h1, h2, h3⟩ := h j hj
    rw [hg] at h1 h2 h3
    refine ⟨[.slice B p.length c], rfl, ⟨B, c, rfl, h2, h3⟩, fun i u hu => ?_⟩
    obtain rfl : i = 0 := by
      have := (List.getElem?_eq_some_iff.1 hu).1
      simpa using this
    obtain rfl : Value.slice B p.length c = u := by simpa using hu
    show w.cell? (ad.add (j * 1 + 0)) = _
    rw [Nat.mul_one, Nat.add_zero, h1]⟩⟩
theorem Ls.part {w : World} {ad : Addr} {L : List (List Int)} (h : Ls w (some ad) L) (lo hi : Nat) (h2 : hi ≤ L.length) : Ls w (some (ad.add lo)) ((L.take hi).drop lo) := by
  have hl : L.length ≤ 9223372036854775807 := h.2.1
  refine Ls.of (fun k hk => ?_) (by rw [List.length_drop, List.length_take]; omega)
  rw [List.length_drop, List.length_take] at hk
  rw [add_add, gl_drop, gl_take _ _ _ (by omega)]
  obtain ⟨ad', B, c, e, hx, hc, hr⟩ := h.at_ (lo + k) (by omega)
  cases e
  exact ⟨B, c, hx, hc, hr⟩

/-- What an Open hands back, in memory. -/
def OpenPost (r : Int × Int × List (List Int) × Int) (w : World) (e : Ending) (w' : World) : Prop :=
  ∃ A c, e = .returned (.tuple #[.agg #[.int .i64 r.1, .int .i64 r.2.1, .slice A r.2.2.1.length c, .int .i64 r.2.2.1.length], .int .i64 r.2.2.2]) ∧ r.2.2.1.length ≤ c ∧ Ls w' A r.2.2.1 ∧ Below w.heap.size w w'
theorem OpenPost.err (k : Int) {w w' : World} {e : Ending} (he : e = .returned (.tuple #[.agg #[.int .i64 0, .int .i64 0, .slice none 0 0, .int .i64 0], .int .i64 k])) (hb : Below w.heap.size w w') : OpenPost (0, 0, [], k) w e w' :=
  ⟨none, 0, he, Nat.le_refl _, Kd.C_nil _ _, hb⟩

/-- The disk's box, and the log that is handed back. -/
def boxD (L : List (List Int)) (left tear : Int) (st : Bool) (A : Option Addr) (c : Nat) : Array Value := #[.slice A L.length c, .int .i64 left, .int .i64 tear, .bool st]
def zeroLog : Array Value := #[.int .i64 0, .int .i64 0, .slice none 0 0, .int .i64 0]
structure Opened (L : List (List Int)) (left tear : Int) (st : Bool) (A : Option Addr) (c : Nat) (w w1 : World) : Prop where
  box : Blk w1 w.heap.size 24 (boxD L left tear st A c)
  res : Blk w1 (w.heap.size + 1) 29 zeroLog
  below : Below w.heap.size w w1
theorem Opened.of {L : List (List Int)} {left tear : Int} {st : Bool} {A : Option Addr} {c : Nat} {w w1 : World}
    (hb : Below ((w.alloc (.cells (boxD L left tear st A c) 24)).alloc (.cells zeroLog 29)).heap.size ((w.alloc (.cells (boxD L left tear st A c) 24)).alloc (.cells zeroLog 29)) w1) : Opened L left tear st A c w w1 := by
  have h1 : Blk ((w.alloc (.cells (boxD L left tear st A c) 24)).alloc (.cells zeroLog 29)) w.heap.size 24 (boxD L left tear st A c) := (Blk.new w 24 _).alloc _
  have h2 : Blk ((w.alloc (.cells (boxD L left tear st A c) 24)).alloc (.cells zeroLog 29)) (w.heap.size + 1) 29 zeroLog := by
    have := Blk.new (w.alloc (.cells (boxD L left tear st A c) 24)) 29 zeroLog
    rwa [World.size_alloc] at this
  exact ⟨h1.below hb (by simp; omega), h2.below hb (by simp), (((Below.refl _ w).alloc (Nat.le_refl _) _).alloc (by simp) _).trans (hb.mono (by simp; omega))⟩
theorem zeroLog0 {w : World} {g : Nat} (h : Blk w g 29 zeroLog) : w.cell? ⟨g, 0, none⟩ = some (.int .i64 0) ∧ w.cell? ⟨g, 1, none⟩ = some (.int .i64 0) ∧ w.cell? ⟨g, 2, none⟩ = some (.slice none 0 0) ∧ w.cell? ⟨g, 3, none⟩ = some (.int .i64 0) :=
  ⟨h.cell 0, h.cell 1, h.cell 2, h.cell 3⟩
theorem box0 {L : List (List Int)} {left tear : Int} {st : Bool} {A : Option Addr} {c : Nat} {w : World} {g : Nat} (h : Blk w g 24 (boxD L left tear st A c)) :
    w.cell? ⟨g, 0, none⟩ = some (.slice A L.length c) ∧ w.cell? ⟨g, 1, none⟩ = some (.int .i64 left) ∧ w.cell? ⟨g, 2, none⟩ = some (.int .i64 tear) ∧ w.cell? ⟨g, 3, none⟩ = some (.bool st) :=
  ⟨h.cell 0, h.cell 1, h.cell 2, h.cell 3⟩

/-- The result, written. -/
abbrev set4 (w : World) (g : Nat) (a b c d : Value) : World := (((w.setCell ⟨g, 0, none⟩ a).setCell ⟨g, 1, none⟩ b).setCell ⟨g, 2, none⟩ c).setCell ⟨g, 3, none⟩ d
theorem set4_blk {w : World} {g t : Nat} {x0 x1 x2 x3 : Value} (h : Blk w g t #[x0, x1, x2, x3]) (a b c d : Value) : Blk (set4 w g a b c d) g t #[a, b, c, d] := (((h.set_ 0 a).set_ 1 b).set_ 2 c).set_ 3 d
theorem OwnL.set {w : World} {base : Nat} {v : Value} {L : List (List Int)} (h : OwnL w base v L) {g : Nat} {cs : Array Value} (hb : Blk w g 29 cs) (j : Nat) (u : Value) : OwnL (w.setCell ⟨g, j, none⟩ u) base v L :=
  Kd.R_set h hb (by intro q hq; simp [Kd.slice, Kd.int, Kd.scalar] at hq; omega) j u
theorem OwnL.set4 {w : World} {base : Nat} {v : Value} {L : List (List Int)} (h : OwnL w base v L) {g : Nat} {x0 x1 x2 x3 : Value} (hb : Blk w g 29 #[x0, x1, x2, x3]) (a b c d : Value) : OwnL (set4 w g a b c d) base v L :=
  (((h.set hb 0 a).set (hb.set_ 0 a) 1 b).set ((hb.set_ 0 a).set_ 1 b) 2 c).set (((hb.set_ 0 a).set_ 1 b).set_ 2 c) 3 d
theorem cells4 {w : World} {g t : Nat} {a b c d : Value} (h : Blk w g t #[a, b, c, d]) : w.cell? ⟨g, 0, none⟩ = some a ∧ w.cell? ⟨g, 1, none⟩ = some b ∧ w.cell? ⟨g, 2, none⟩ = some c ∧ w.cell? ⟨g, 3, none⟩ = some d :=
  ⟨h.cell 0, h.cell 1, h.cell 2, h.cell 3⟩
theorem set4_below {w0 w : World} {B g : Nat} (h : Below B w0 w) (hg : B ≤ g) (a b c d : Value) : Below B w0 (set4 w g a b c d) :=
  (((h.setCell (p := ⟨g, 0, none⟩) hg a).setCell (p := ⟨g, 1, none⟩) hg b).setCell (p := ⟨g, 2, none⟩) hg c).setCell (p := ⟨g, 3, none⟩) hg d

set_option maxHeartbeats 4000000 in
set_option maxRecDepth 100000 in
theorem rOpen_no (L : List (List Int)) (left tear : Int) (st : Bool) (first many : Int) (A : Option Addr) (c : Nat) (w : World) (h : Ls w A L) (hb : ∀ s ∈ L, N8 s) (hc : L.length ≤ c) (hlen : L.length ≤ 140737488351232)
    (hf : -9223372036854775808 ≤ first ∧ first ≤ 9223372036854775807) (hm : -9223372036854775808 ≤ many ∧ many ≤ 9223372036854775807) (hok : okD L left tear st = false) :
    Calls Try.prog 7 #[.agg #[.slice A L.length c, .int .i64 left, .int .i64 tear, .bool st], .int .i64 first, .int .i64 many] w (OpenPost (openS L left tear st first many) w) := by
  have HR := Aside0.mk h
  have C : Aside0 (Calls Try.prog 17 #[.agg #[.slice A L.length c, .int .i64 left, .int .i64 tear, .bool st]] ((w.alloc (.cells (boxD L left tear st A c) 24)).alloc (.cells zeroLog 29)) fun e w1 => e = .returned (.int .i64 (ckD L left tear st)) ∧ Opened L left tear st A c w w1) :=
    ⟨(rCheck_any L left tear st A c _ (Kd.C_below h (((Below.refl _ w).alloc (Nat.le_refl _) _).alloc (by simp) _)) hlen).mono fun e w1 hh => ⟨hh.1, Opened.of hh.2⟩⟩
  clear h
  have HE : Aside0 (openS L left tear st first many = (0, 0, [], 1)) := ⟨by rw [openS, if_pos hok]⟩
  have C' := C.out
  rw [ckD_no hok] at C'
  replace C := Aside0.mk C'
  clear C' hok
  rw [HE.out]
  go_enter Try.func7, Try.ntmps7
  go_wp2_with (go_at_call 17; refine C.out.mono ?_; rintro e w1 ⟨rfl, ho⟩; obtain ⟨z0, z1, z2, z3⟩ := zeroLog0 ho.res; have f0 := ho.res.frozen 0; have f1 := ho.res.frozen 1; have f2 := ho.res.frozen 2; have f3 := ho.res.frozen 3; have HO := Aside0.mk ho; clear ho)
  obtain ⟨q0, q1, q2, q3⟩ := cells4 (set4_blk HO.out.res (.int .i64 0) (.int .i64 0) (.slice none 0 0) (.int .i64 0))
  refine bodyPost_ret (v := .tuple #[.agg #[.int .i64 0, .int .i64 0, .slice none 0 0, .int .i64 0], .int .i64 1]) (by simp [results, Try.results7, go_sem, q0, q1, q2, q3]) rfl ?_
  exact OpenPost.err 1 rfl (set4_below HO.out.below (by omega) _ _ _ _)

set_option maxHeartbeats 4000000 in
set_option maxRecDepth 100000 in
theorem rOpen_arg (L : List (List Int)) (left tear : Int) (st : Bool) (first many : Int) (A : Option Addr) (c : Nat) (w : World) (h : Ls w A L) (hb : ∀ s ∈ L, N8 s) (hc : L.length ≤ c) (hlen : L.length ≤ 140737488351232)
    (hf : -9223372036854775808 ≤ first ∧ first ≤ 9223372036854775807) (hm : -9223372036854775808 ≤ many ∧ many ≤ 9223372036854775807) (hok : okD L left tear st = true) (hba : badArg L.length first many = true) :
    Calls Try.prog 7 #[.agg #[.slice A L.length c, .int .i64 left, .int .i64 tear, .bool st], .int .i64 first, .int .i64 many] w (OpenPost (openS L left tear st first many) w) := by
  have HR := Aside0.mk h
  have C : Aside0 (Calls Try.prog 17 #[.agg #[.slice A L.length c, .int .i64 left, .int .i64 tear, .bool st]] ((w.alloc (.cells (boxD L left tear st A c) 24)).alloc (.cells zeroLog 29)) fun e w1 => e = .returned (.int .i64 (ckD L left tear st)) ∧ Opened L left tear st A c w w1) :=
    ⟨(rCheck_any L left tear st A c _ (Kd.C_below h (((Below.refl _ w).alloc (Nat.le_refl _) _).alloc (by simp) _)) hlen).mono fun e w1 hh => ⟨hh.1, Opened.of hh.2⟩⟩
  clear h
  have C' := C.out
  rw [ckD_yes hok] at C'
  replace C := Aside0.mk C'
  clear C'
  have hS := Aside0.mk (secs_of hok hb)
  have hn : L.length ≤ 4096 := hS.out.1
  have hb' := Aside0.mk hb
  clear hb
  have HE : Aside0 (openS L left tear st first many = (0, 0, [], 1)) := ⟨by rw [openS, if_neg (by simp [hok]), if_pos hba]⟩
  rw [HE.out]
  clear hok HE
  have hcs : decide (first < 0) = true ∨ (decide (first < 0) = false ∧ decide (many < 1) = true) ∨ (decide (first < 0) = false ∧ decide (many < 1) = false ∧ decide ((L.length : Int) < many) = true) ∨
      (decide (first < 0) = false ∧ decide (many < 1) = false ∧ decide ((L.length : Int) < many) = false ∧ IntKind.i64.wrap ((L.length : Int) - many) = (L.length : Int) - many ∧ decide ((L.length : Int) - many < first) = true) := by
    simp only [badArg, Bool.or_eq_true, decide_eq_true_iff] at hba
    simp only [decide_eq_true_iff, decide_eq_false_iff_not]
    have hw : 1 ≤ many → many ≤ L.length → IntKind.i64.wrap ((L.length : Int) - many) = (L.length : Int) - many := fun _ _ => IntWalk.i64_in _ (by omega)
    by_cases q1 : first < 0
    · exact .inl q1
    by_cases q2 : many < 1
    · exact .inr (.inl ⟨q1, q2⟩)
    by_cases q3 : (L.length : Int) < many
    · exact .inr (.inr (.inl ⟨q1, q2, q3⟩))
    exact .inr (.inr (.inr ⟨q1, q2, q3, hw (by omega) (by omega), by omega⟩))
  clear hba
  rcases hcs with e1 | ⟨e1, e2⟩ | ⟨e1, e2, e3⟩ | ⟨e1, e2, e3, e4, e5⟩ <;>
  · go_enter Try.func7, Try.ntmps7
    go_wp2_with (go_at_call 17; refine C.out.mono ?_; rintro e w1 ⟨rfl, ho⟩; obtain ⟨z0, z1, z2, z3⟩ := zeroLog0 ho.res; obtain ⟨y0, y1, y2, y3⟩ := box0 ho.box; have f0 := ho.res.frozen 0; have f1 := ho.res.frozen 1; have f2 := ho.res.frozen 2; have f3 := ho.res.frozen 3; have HO := Aside0.mk ho; clear ho)
    obtain ⟨q0, q1, q2, q3⟩ := cells4 (set4_blk HO.out.res (.int .i64 0) (.int .i64 0) (.slice none 0 0) (.int .i64 0))
    refine bodyPost_ret (v := .tuple #[.agg #[.int .i64 0, .int .i64 0, .slice none 0 0, .int .i64 0], .int .i64 1]) (by simp [results, Try.results7, go_sem, q0, q1, q2, q3]) rfl ?_
    exact OpenPost.err 1 rfl (set4_below HO.out.below (by omega) _ _ _ _)

set_option maxHeartbeats 4000000 in
set_option maxRecDepth 100000 in
theorem rOpen_st (L : List (List Int)) (left tear : Int) (st : Bool) (first many : Int) (A : Option Addr) (c : Nat) (w : World) (h : Ls w A L) (hb : ∀ s ∈ L, N8 s) (hc : L.length ≤ c) (hlen : L.length ≤ 140737488351232)
    (hf : -9223372036854775808 ≤ first ∧ first ≤ 9223372036854775807) (hm : -9223372036854775808 ≤ many ∧ many ≤ 9223372036854775807) (hok : okD L left tear st = true) (hba : badArg L.length first many = false) (hst : st = true) :
    Calls Try.prog 7 #[.agg #[.slice A L.length c, .int .i64 left, .int .i64 tear, .bool st], .int .i64 first, .int .i64 many] w (OpenPost (openS L left tear st first many) w) := by
  have HR := Aside0.mk h
  have C : Aside0 (Calls Try.prog 17 #[.agg #[.slice A L.length c, .int .i64 left, .int .i64 tear, .bool st]] ((w.alloc (.cells (boxD L left tear st A c) 24)).alloc (.cells zeroLog 29)) fun e w1 => e = .returned (.int .i64 (ckD L left tear st)) ∧ Opened L left tear st A c w w1) :=
    ⟨(rCheck_any L left tear st A c _ (Kd.C_below h (((Below.refl _ w).alloc (Nat.le_refl _) _).alloc (by simp) _)) hlen).mono fun e w1 hh => ⟨hh.1, Opened.of hh.2⟩⟩
  clear h
  have C' := C.out
  rw [ckD_yes hok] at C'
  replace C := Aside0.mk C'
  clear C'
  have hS := Aside0.mk (secs_of hok hb)
  have hn : L.length ≤ 4096 := hS.out.1
  have hb' := Aside0.mk hb
  clear hb
  have hba' : decide (first < 0) = false ∧ decide (many < 1) = false ∧ decide ((L.length : Int) < many) = false ∧ IntKind.i64.wrap ((L.length : Int) - many) = (L.length : Int) - many ∧ decide ((L.length : Int) - many < first) = false := by
    simp only [badArg, Bool.or_eq_false_iff, decide_eq_false_iff_not] at hba
    simp only [decide_eq_false_iff_not]
    exact ⟨by omega, by omega, by omega, IntWalk.i64_in _ (by omega), by omega⟩
  obtain ⟨e1, e2, e3, e4, e5⟩ := hba'
  have HE : Aside0 (openS L left tear st first many = (0, 0, [], 410)) := ⟨by rw [openS, if_neg (by simp [hok]), if_neg (by simp [hba]), if_pos hst]⟩
  rw [HE.out]
  clear hok HE hba
  subst hst
  go_enter Try.func7, Try.ntmps7
  go_wp2_with (go_at_call 17; refine C.out.mono ?_; rintro e w1 ⟨rfl, ho⟩; obtain ⟨z0, z1, z2, z3⟩ := zeroLog0 ho.res; obtain ⟨y0, y1, y2, y3⟩ := box0 ho.box; have f0 := ho.res.frozen 0; have f1 := ho.res.frozen 1; have f2 := ho.res.frozen 2; have f3 := ho.res.frozen 3; have HO := Aside0.mk ho; clear ho)
  obtain ⟨q0, q1, q2, q3⟩ := cells4 (set4_blk HO.out.res (.int .i64 0) (.int .i64 0) (.slice none 0 0) (.int .i64 0))
  refine bodyPost_ret (v := .tuple #[.agg #[.int .i64 0, .int .i64 0, .slice none 0 0, .int .i64 0], .int .i64 410]) (by simp [results, Try.results7, go_sem, q0, q1, q2, q3]) rfl ?_
  exact OpenPost.err 410 rfl (set4_below HO.out.below (by omega) _ _ _ _)

end Go.Proofs.Ytfoojamabjpdpaa.Wal
