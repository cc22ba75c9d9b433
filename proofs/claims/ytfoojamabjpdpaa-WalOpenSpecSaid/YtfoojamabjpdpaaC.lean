import Derived.Test.YtfoojamabjpdpaaB9
/- The reference's Open: the case that reads. -/
namespace Go.Proofs.Ytfoojamabjpdpaa.Wal
open Go.RowKit Go.Proofs.YtfoojamabjpdpaaW.PrintWords Go.Proofs.YtfoojamabjpdpaaW.PrintLast Go.Proofs.YtfoojamabjpdpaaW.PrintMore Go.Proofs.Ytfoojamabjpdpaa.PWalOpenSpec
attribute [local go_sem] max2_int min2_int max_two min_two max_three min_three max_four min_four
set_option linter.unusedVariables false
set_option linter.unusedSimpArgs false

set_option maxHeartbeats 4000000 in
set_option maxRecDepth 100000 in
theorem rOpen_yes (L : List (List Int)) (left tear : Int) (st : Bool) (first many : Int) (A : Option Addr) (c : Nat) (w : World) (h : Ls w A L) (hb : ∀ s ∈ L, N8 s) (hc : L.length ≤ c) (hlen : L.length ≤ 140737488351232)
    (hf : -9223372036854775808 ≤ first ∧ first ≤ 9223372036854775807) (hm : -9223372036854775808 ≤ many ∧ many ≤ 9223372036854775807) (hok : okD L left tear st = true) (hba : badArg L.length first many = false) (hst : st = false) :
    Calls Try.prog 7 #[.agg #[.slice A L.length c, .int .i64 left, .int .i64 tear, .bool st], .int .i64 first, .int .i64 many] w (OpenPost (openS L left tear st first many) w) := by
  have HR := Aside0.mk h
  have C : Aside0 (Calls Try.prog 17 #[.agg #[.slice A L.length c, .int .i64 left, .int .i64 tear, .bool st]] ((w.alloc (.cells (boxD L left tear st A c) 24)).alloc (.cells zeroLog 29)) fun e w1 => e = .returned (.int .i64 (ckD L left tear st)) ∧ Opened L left tear st A c w w1) :=
    ⟨(rCheck_any L left tear st A c _ (Kd.C_below h (((Below.refl _ w).alloc (Nat.le_refl _) _).alloc (by simp) _)) hlen).mono fun e w1 hh => ⟨hh.1, Opened.of hh.2⟩⟩
  clear h
  have C' := C.out
  rw [ckD_yes hok] at C'
  replace C := Aside0.mk C'
  clear C'
  have hS := Aside0.mk (secs_of hok hb)
  have hn : L.length ≤ 4096 := hS.out.1
  have hb' := Aside0.mk hb
  clear hb
  have hba' : decide (first < 0) = false ∧ decide (many < 1) = false ∧ decide ((L.length : Int) < many) = false ∧ IntKind.i64.wrap ((L.length : Int) - many) = (L.length : Int) - many ∧ decide ((L.length : Int) - many < first) = false := by
    simp only [badArg, Bool.or_eq_false_iff, decide_eq_false_iff_not] at hba
    simp only [decide_eq_false_iff_not]
    exact ⟨by omega, by omega, by omega, IntWalk.i64_in _ (by omega), by omega⟩
  obtain ⟨e1, e2, e3, e4, e5⟩ := hba'
  subst hst
  obtain ⟨lo, rfl⟩ : ∃ lo : Nat, first = lo := ⟨first.toNat, by simp only [decide_eq_false_iff_not] at e1; omega⟩
  obtain ⟨m, rfl⟩ : ∃ m : Nat, many = m := ⟨many.toNat, by simp only [decide_eq_false_iff_not] at e2; omega⟩
  have hm1 : 1 ≤ m ∧ lo + m ≤ L.length := by simp only [decide_eq_false_iff_not] at e1 e2 e3 e5; omega
  obtain ⟨ad, B0, c0, rfl, _⟩ := HR.out.at_ 0 (by omega)
  have HE : Aside0 (openS L left tear false (lo : Int) (m : Int) = ((lo : Int), (m : Int), recS ((L.take (lo + m)).drop lo), (0 : Int))) := ⟨by
    rw [openS, if_neg (by simp [hok]), if_neg (by simp [hba]), if_neg (by simp)]
    rw [show ((lo : Int) + (m : Int)).toNat = lo + m by omega, show ((lo : Int)).toNat = lo by omega]⟩
  rw [HE.out]
  have hlp : ((L.take (lo + m)).drop lo).length = m := by rw [List.length_drop, List.length_take]; omega
  have hw : IntKind.i64.wrap ((lo : Int) + (m : Int)) = (lo : Int) + (m : Int) := IntWalk.i64_in _ (by omega)
  have hsl : ∀ W, (Instr.slice 22 (.slice (some ad) L.length c) (some (.int .i64 (lo : Int))) (some (.int .i64 ((lo : Int) + (m : Int)))) none).run Try.prog W = .ok (.slice (if c = lo then some ad else some (ad.add lo)) m (c - lo)) W := fun W => by
    have := slice_run (P := Try.prog) 22 25 (by rfl) (by rfl) (some ad) L.length c lo (lo + m) (by omega) (by omega) hc W
    rw [show lo + m - lo = m by omega, Int.natCast_add] at this
    exact this
  have hne : (if c = lo then some ad else some (ad.add lo)) = some (ad.add lo) := if_neg (by omega)
  rw [hne] at hsl
  have C2 : Aside0 (∀ w1, Below w.heap.size w w1 → Calls Try.prog 18 #[.slice (some (ad.add lo)) m (c - lo)] w1 fun e w' => ∃ A2 c2, e = .returned (.slice A2 (recS ((L.take (lo + m)).drop lo)).length c2) ∧ (recS ((L.take (lo + m)).drop lo)).length ≤ c2 ∧ Ls w' A2 (recS ((L.take (lo + m)).drop lo)) ∧ OwnL w' w1.heap.size (.slice A2 (recS ((L.take (lo + m)).drop lo)).length c2) (recS ((L.take (lo + m)).drop lo)) ∧ Below w1.heap.size w1 w') := ⟨fun w1 hb1 => by
    have := Records_any ((L.take (lo + m)).drop lo) (some (ad.add lo)) (c - lo) w1 (Ls.part (Kd.C_below HR.out hb1) lo (lo + m) hm1.2) (hS.out.part lo (lo + m)) (by rw [hlp]; omega)
    rw [hlp] at this
    refine this.mono fun e w2 hh => ?_
    obtain ⟨v, rfl, ho, hb2⟩ := hh
    obtain ⟨A2, c2, rfl, hc2, hl2⟩ := ho.ls
    exact ⟨A2, c2, rfl, hc2, hl2, ho, hb2⟩⟩
  have e3' : decide (L.length < m) = false := decide_eq_false (by omega)
  clear hok HE hba hm1 hlp hne
  generalize recS ((L.take (lo + m)).drop lo) = X at *
  go_enter Try.func7, Try.ntmps7
  go_wp2_with (first
    | (go_at_call 17; refine C.out.mono ?_; rintro e w1 ⟨rfl, ho⟩; obtain ⟨z0, z1, z2, z3⟩ := zeroLog0 ho.res; obtain ⟨y0, y1, y2, y3⟩ := box0 ho.box; have f0 := ho.res.frozen 0; have f1 := ho.res.frozen 1; have f2 := ho.res.frozen 2; have f3 := ho.res.frozen 3; have HO := Aside0.mk ho; clear ho)
    | (go_at_call 18; refine (C2.out _ HO.out.below).mono ?_; rintro e w2 ⟨A2, c2, rfl, hc2, hl2, ho2, hb2⟩; have HC2 := Aside0.mk hc2; have HL2 := Aside0.mk ho2; have HB2 := Aside0.mk hb2; have hr2 := HO.out.res.below hb2 (by have := HO.out.res.lt; omega); obtain ⟨z0, z1, z2, z3⟩ := zeroLog0 hr2; have f0 := hr2.frozen 0; have f1 := hr2.frozen 1; have f2 := hr2.frozen 2; have f3 := hr2.frozen 3; have HR2 := Aside0.mk hr2; clear hr2 hc2 hl2 ho2 hb2))
  obtain ⟨q0, q1, q2, q3⟩ := cells4 (set4_blk HR2.out (.int .i64 lo) (.int .i64 m) (.slice A2 X.length c2) (.int .i64 X.length))
  refine bodyPost_ret (v := .tuple #[.agg #[.int .i64 lo, .int .i64 m, .slice A2 X.length c2, .int .i64 X.length], .int .i64 0]) (by simp [results, Try.results7, go_sem, q0, q1, q2, q3]) rfl ?_
  obtain ⟨A3, c3, hv3, hc3, hl3⟩ := (HL2.out.set4 HR2.out (.int .i64 lo) (.int .i64 m) (.slice A2 X.length c2) (.int .i64 X.length)).ls
  obtain ⟨rfl, rfl⟩ : A2 = A3 ∧ c2 = c3 := by injection hv3 with h1 h2 h3; exact ⟨h1, h3⟩
  exact ⟨A2, c2, rfl, hc3, hl3, set4_below (HO.out.below.trans (HB2.out.mono HO.out.below.size)) (by omega) _ _ _ _⟩

set_option maxHeartbeats 4000000 in
set_option maxRecDepth 100000 in
theorem rOpen_any (L : List (List Int)) (left tear : Int) (st : Bool) (first many : Int) (A : Option Addr) (c : Nat) (w : World) (h : Ls w A L) (hb : ∀ s ∈ L, N8 s) (hc : L.length ≤ c) (hlen : L.length ≤ 140737488351232)
    (hf : -9223372036854775808 ≤ first ∧ first ≤ 9223372036854775807) (hm : -9223372036854775808 ≤ many ∧ many ≤ 9223372036854775807) :
    Calls Try.prog 7 #[.agg #[.slice A L.length c, .int .i64 left, .int .i64 tear, .bool st], .int .i64 first, .int .i64 many] w (OpenPost (openS L left tear st first many) w) := by
  rcases Bool.eq_false_or_eq_true (okD L left tear st) with hok | hok
  · rcases Bool.eq_false_or_eq_true (badArg L.length first many) with hba | hba
    · exact rOpen_arg L left tear st first many A c w h hb hc hlen hf hm hok hba
    · rcases Bool.eq_false_or_eq_true st with hst | hst
      · exact rOpen_st L left tear st first many A c w h hb hc hlen hf hm hok hba hst
      · exact rOpen_yes L left tear st first many A c w h hb hc hlen hf hm hok hba hst
  · exact rOpen_no L left tear st first many A c w h hb hc hlen hf hm hok
end Go.Proofs.Ytfoojamabjpdpaa.Wal
