import Derived.Test.YtfoojamabjpdpaaC
import Derived.Test.YtfoojamabjpdpaaA2
/- Open: the cases that refuse. -/
namespace Go.Proofs.Ytfoojamabjpdpaa.Wal
open Go.RowKit Go.Proofs.YtfoojamabjpdpaaW.PrintWords Go.Proofs.YtfoojamabjpdpaaW.PrintLast Go.Proofs.YtfoojamabjpdpaaW.PrintMore Go.Proofs.Ytfoojamabjpdpaa.PWalOpenSpec
attribute [local go_sem] max2_int min2_int max_two min_two max_three min_three max_four min_four
set_option linter.unusedVariables false
set_option linter.unusedSimpArgs false

set_option maxHeartbeats 4000000 in
set_option maxRecDepth 100000 in
theorem wOpen_no (L : List (List Int)) (left tear : Int) (st : Bool) (first many : Int) (A : Option Addr) (c : Nat) (w : World) (h : Ls w A L) (hb : ∀ s ∈ L, N8 s) (hc : L.length ≤ c) (hlen : L.length ≤ 140737488351232)
    (hf : -9223372036854775808 ≤ first ∧ first ≤ 9223372036854775807) (hm : -9223372036854775808 ≤ many ∧ many ≤ 9223372036854775807) (hok : okD L left tear st = false) :
    Calls Try.prog 6 #[.agg #[.slice A L.length c, .int .i64 left, .int .i64 tear, .bool st], .int .i64 first, .int .i64 many] w (OpenPost (openS L left tear st first many) w) := by
  have HR := Aside0.mk h
  have C : Aside0 (Calls Try.prog 15 #[.agg #[.slice A L.length c, .int .i64 left, .int .i64 tear, .bool st]] ((w.alloc (.cells (boxD L left tear st A c) 24)).alloc (.cells zeroLog 29)) fun e w1 => e = .returned (.int .i64 (ckD L left tear st)) ∧ Opened L left tear st A c w w1) :=
    ⟨(Check_any L left tear st A c _ (Kd.C_below h (((Below.refl _ w).alloc (Nat.le_refl _) _).alloc (by simp) _)) hlen).mono fun e w1 hh => ⟨hh.1, Opened.of hh.2⟩⟩
  clear h
  have HE : Aside0 (openS L left tear st first many = (0, 0, [], 1)) := ⟨by rw [openS, if_pos hok]⟩
  have C' := C.out
  rw [ckD_no hok] at C'
  replace C := Aside0.mk C'
  clear C' hok
  rw [HE.out]
  go_enter Try.func6, Try.ntmps6
  go_wp2_with (go_at_call 15; refine C.out.mono ?_; rintro e w1 ⟨rfl, ho⟩; obtain ⟨z0, z1, z2, z3⟩ := zeroLog0 ho.res; have f0 := ho.res.frozen 0; have f1 := ho.res.frozen 1; have f2 := ho.res.frozen 2; have f3 := ho.res.frozen 3; have HO := Aside0.mk ho; clear ho)
  obtain ⟨q0, q1, q2, q3⟩ := cells4 (set4_blk HO.out.res (.int .i64 0) (.int .i64 0) (.slice none 0 0) (.int .i64 0))
  refine bodyPost_ret (v := .tuple #[.agg #[.int .i64 0, .int .i64 0, .slice none 0 0, .int .i64 0], .int .i64 1]) (by simp [results, Try.results6, go_sem, q0, q1, q2, q3]) rfl ?_
  exact OpenPost.err 1 rfl (set4_below HO.out.below (by omega) _ _ _ _)

set_option maxHeartbeats 4000000 in
set_option maxRecDepth 100000 in
theorem wOpen_arg (L : List (List Int)) (left tear : Int) (st : Bool) (first many : Int) (A : Option Addr) (c : Nat) (w : World) (h : Ls w A L) (hb : ∀ s ∈ L, N8 s) (hc : L.length ≤ c) (hlen : L.length ≤ 140737488351232)
    (hf : -9223372036854775808 ≤ first ∧ first ≤ 9223372036854775807) (hm : -9223372036854775808 ≤ many ∧ many ≤ 9223372036854775807) (hok : okD L left tear st = true) (hba : badArg L.length first many = true) :
    Calls Try.prog 6 #[.agg #[.slice A L.length c, .int .i64 left, .int .i64 tear, .bool st], .int .i64 first, .int .i64 many] w (OpenPost (openS L left tear st first many) w) := by
  have HR := Aside0.mk h
  have C : Aside0 (Calls Try.prog 15 #[.agg #[.slice A L.length c, .int .i64 left, .int .i64 tear, .bool st]] ((w.alloc (.cells (boxD L left tear st A c) 24)).alloc (.cells zeroLog 29)) fun e w1 => e = .returned (.int .i64 (ckD L left tear st)) ∧ Opened L left tear st A c w w1) :=
    ⟨(Check_any L left tear st A c _ (Kd.C_below h (((Below.refl _ w).alloc (Nat.le_refl _) _).alloc (by simp) _)) hlen).mono fun e w1 hh => ⟨hh.1, Opened.of hh.2⟩⟩
  clear h
  have C' := C.out
  rw [ckD_yes hok] at C'
  replace C := Aside0.mk C'
  clear C'
  have hS := Aside0.mk (secs_of hok hb)
  have hn : L.length ≤ 4096 := hS.out.1
  have hb' := Aside0.mk hb
  clear hb
  have HE : Aside0 (openS L left tear st first many = (0, 0, [], 1)) := ⟨by rw [openS, if_neg (by simp [hok]), if_pos hba]⟩
  rw [HE.out]
  clear hok HE
  have hcs : decide (first < 0) = true ∨ (decide (first < 0) = false ∧ decide (many < 1) = true) ∨ (decide (first < 0) = false ∧ decide (many < 1) = false ∧ decide ((L.length : Int) < many) = true) ∨
      (decide (first < 0) = false ∧ decide (many < 1) = false ∧ decide ((L.length : Int) < many) = false ∧ IntKind.i64.wrap ((L.length : Int) - many) = (L.length : Int) - many ∧ decide ((L.length : Int) - many < first) = true) := by
    simp only [badArg, Bool.or_eq_true, decide_eq_true_iff] at hba
    simp only [decide_eq_true_iff, decide_eq_false_iff_not]
    have hw : 1 ≤ many → many ≤ L.length → IntKind.i64.wrap ((L.length : Int) - many) = (L.length : Int) - many := fun _ _ => IntWalk.i64_in _ (by omega)
    by_cases q1 : first < 0
    · exact .inl q1
    by_cases q2 : many < 1
    · exact .inr (.inl ⟨q1, q2⟩)
    by_cases q3 : (L.length : Int) < many
    · exact .inr (.inr (.inl ⟨q1, q2, q3⟩))
    exact .inr (.inr (.inr ⟨q1, q2, q3, hw (by omega) (by omega), by omega⟩))
  clear hba
  rcases hcs with e1 | ⟨e1, e2⟩ | ⟨e1, e2, e3⟩ | ⟨e1, e2, e3, e4, e5⟩ <;>
  · go_enter Try.func6, Try.ntmps6
    go_wp2_with (go_at_call 15; refine C.out.mono ?_; rintro e w1 ⟨rfl, ho⟩; obtain ⟨z0, z1, z2, z3⟩ := zeroLog0 ho.res; obtain ⟨y0, y1, y2, y3⟩ := box0 ho.box; have f0 := ho.res.frozen 0; have f1 := ho.res.frozen 1; have f2 := ho.res.frozen 2; have f3 := ho.res.frozen 3; have HO := Aside0.mk ho; clear ho)
    obtain ⟨q0, q1, q2, q3⟩ := cells4 (set4_blk HO.out.res (.int .i64 0) (.int .i64 0) (.slice none 0 0) (.int .i64 0))
    refine bodyPost_ret (v := .tuple #[.agg #[.int .i64 0, .int .i64 0, .slice none 0 0, .int .i64 0], .int .i64 1]) (by simp [results, Try.results6, go_sem, q0, q1, q2, q3]) rfl ?_
    exact OpenPost.err 1 rfl (set4_below HO.out.below (by omega) _ _ _ _)

set_option maxHeartbeats 4000000 in
set_option maxRecDepth 100000 in
theorem wOpen_st (L : List (List Int)) (left tear : Int) (st : Bool) (first many : Int) (A : Option Addr) (c : Nat) (w : World) (h : Ls w A L) (hb : ∀ s ∈ L, N8 s) (hc : L.length ≤ c) (hlen : L.length ≤ 140737488351232)
    (hf : -9223372036854775808 ≤ first ∧ first ≤ 9223372036854775807) (hm : -9223372036854775808 ≤ many ∧ many ≤ 9223372036854775807) (hok : okD L left tear st = true) (hba : badArg L.length first many = false) (hst : st = true) :
    Calls Try.prog 6 #[.agg #[.slice A L.length c, .int .i64 left, .int .i64 tear, .bool st], .int .i64 first, .int .i64 many] w (OpenPost (openS L left tear st first many) w) := by
  have HR := Aside0.mk h
  have C : Aside0 (Calls Try.prog 15 #[.agg #[.slice A L.length c, .int .i64 left, .int .i64 tear, .bool st]] ((w.alloc (.cells (boxD L left tear st A c) 24)).alloc (.cells zeroLog 29)) fun e w1 => e = .returned (.int .i64 (ckD L left tear st)) ∧ Opened L left tear st A c w w1) :=
    ⟨(Check_any L left tear st A c _ (Kd.C_below h (((Below.refl _ w).alloc (Nat.le_refl _) _).alloc (by simp) _)) hlen).mono fun e w1 hh => ⟨hh.1, Opened.of hh.2⟩⟩
  clear h
  have C' := C.out
  rw [ckD_yes hok] at C'
  replace C := Aside0.mk C'
  clear C'
  have hS := Aside0.mk (secs_of hok hb)
  have hn : L.length ≤ 4096 := hS.out.1
  have hb' := Aside0.mk hb
  clear hb
  have hba' : decide (first < 0) = false ∧ decide (many < 1) = false ∧ decide ((L.length : Int) < many) = false ∧ IntKind.i64.wrap ((L.length : Int) - many) = (L.length : Int) - many ∧ decide ((L.length : Int) - many < first) = false := by
    simp only [badArg, Bool.or_eq_false_iff, decide_eq_false_iff_not] at hba
    simp only [decide_eq_false_iff_not]
    exact ⟨by omega, by omega, by omega, IntWalk.i64_in _ (by omega), by omega⟩
  obtain ⟨e1, e2, e3, e4, e5⟩ := hba'
  have HE : Aside0 (openS L left tear st first many = (0, 0, [], 410)) := ⟨by rw [openS, if_neg (by simp [hok]), if_neg (by simp [hba]), if_pos hst]⟩
  rw [HE.out]
  clear hok HE hba
  subst hst
  go_enter Try.func6, Try.ntmps6
  go_wp2_with (go_at_call 15; refine C.out.mono ?_; rintro e w1 ⟨rfl, ho⟩; obtain ⟨z0, z1, z2, z3⟩ := zeroLog0 ho.res; obtain ⟨y0, y1, y2, y3⟩ := box0 ho.box; have f0 := ho.res.frozen 0; have f1 := ho.res.frozen 1; have f2 := ho.res.frozen 2; have f3 := ho.res.frozen 3; have HO := Aside0.mk ho; clear ho)
  obtain ⟨q0, q1, q2, q3⟩ := cells4 (set4_blk HO.out.res (.int .i64 0) (.int .i64 0) (.slice none 0 0) (.int .i64 0))
  refine bodyPost_ret (v := .tuple #[.agg #[.int .i64 0, .int .i64 0, .slice none 0 0, .int .i64 0], .int .i64 410]) (by simp [results, Try.results6, go_sem, q0, q1, q2, q3]) rfl ?_
  exact OpenPost.err 410 rfl (set4_below HO.out.below (by omega) _ _ _ _)

end Go.Proofs.Ytfoojamabjpdpaa.Wal
