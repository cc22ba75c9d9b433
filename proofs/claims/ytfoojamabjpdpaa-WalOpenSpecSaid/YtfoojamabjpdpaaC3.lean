import Derived.Test.YtfoojamabjpdpaaC1
import Derived.Test.YtfoojamabjpdpaaC2
/- Open: the case that reads. -/
namespace Go.Proofs.Ytfoojamabjpdpaa.Wal
open Go.RowKit Go.Proofs.YtfoojamabjpdpaaW.PrintWords Go.Proofs.YtfoojamabjpdpaaW.PrintLast Go.Proofs.YtfoojamabjpdpaaW.PrintMore Go.Proofs.Ytfoojamabjpdpaa.PWalOpenSpec
attribute [local go_sem] max2_int min2_int max_two min_two max_three min_three max_four min_four
attribute [local go_sem] Oper.semAt_some
set_option linter.unusedVariables false
set_option linter.unusedSimpArgs false

theorem OwnB.putObj {w : World} {b : Nat} {v : Value} {s : List Int} (h : OwnB w b v s) {l : Nat} {o : Obj} (o' : Obj) (hl : w.heap[l]? = some o) (ho : o.isCells = false) : OwnB (w.putObj l o') b v s := ownsRow_putObj h o' hl ho
theorem OwnL.putObj {w : World} {b : Nat} {v : Value} {X : List (List Int)} (h : OwnL w b v X) {l : Nat} {o : Obj} (o' : Obj) (hl : w.heap[l]? = some o) (ho : o.isCells = false) : OwnL (w.putObj l o') b v X := by
  refine Kd.R_mono (Kd.R_step (Kd.R_bound h) (fun k hk hlt => ?_)) (fun _ _ => trivial)
  obtain ⟨_, _, _, q, _, cells, hc⟩ := hk
  refine World.putObj_heap_other ?_
  rintro rfl
  rw [hl] at hc
  cases hc
  cases ho
theorem Blk.putObj {w : World} {g t : Nat} {cs : Array Value} (h : Blk w g t cs) {l : Nat} (o' : Obj) (hg : g ≠ l) : Blk (w.putObj l o') g t cs := (World.putObj_heap_other hg).trans h

/-- A row laid behind rows. -/
theorem app_row {W : World} {base : Nat} {v vb : Value} {outs : List (List Int)} {b : List Int} (HO : OwnL W base v outs) (HB : OwnB W base vb b) (hbase : base ≤ W.heap.size) (hl : (outs.length + 1) * 24 ≤ 140737488355328) :
    ∃ v1 w1, (Builtin.append_ #[22, 22] 22 #[v, .slice (some ⟨W.heap.size, 0, none⟩) 1 1]).run Try.prog (W.alloc (.cells #[vb] 25)) = .ok v1 w1 ∧ OwnL w1 base v1 (outs ++ [b]) ∧ W.grownBy w1 v.ownBlock := by
  have hne := Kd.R_apartR HB.R HO (by intro q hq; simp [Kd.int, Kd.scalar] at hq; omega)
  obtain ⟨i, hi, hzz⟩ := Option.map_eq_some_iff.1 info25
  simp only [Prod.mk.injEq] at hzz
  obtain ⟨hz0, hz1, hz2⟩ := hzz
  obtain ⟨Ab, cb, rfl, _, _⟩ := HB.rd
  have h1 := HO
  obtain ⟨h0, inner, hown, hr⟩ := h1
  obtain ⟨v', W', hrun, h2, h3, _, h5⟩ := run_append_own_at (P := Try.prog) (W.alloc (.cells #[.slice Ab b.length cb] 25)) base 22 22 25 i (.slice none 0 0) 1 24 Try.underlying22 hi hz0 hz1 hz2 rfl (by omega) v outs.length inner (hown.alloc _) ⟨W.heap.size, 0, none⟩ 1 1 [.slice Ab b.length cb] rfl
    (World.news_of_block (cs := #[.slice Ab b.length cb]) (t := 25) (fr := (0, 0)) (heap_alloc_new W _)) (by intro u hu; obtain rfl := List.mem_singleton.1 hu; rfl) (by simp only [maxLen]; omega) hl (by simp; omega)
  have hat : v'.ownBlock = v.ownBlock ∨ ∃ b, v'.ownBlock = some b ∧ W.heap.size ≤ b := h5.imp id (fun h => ⟨_, h, by simp⟩)
  exact ⟨v', W', hrun, Kd.R_appended h0 hr ⟨_, rfl, hne⟩ (fun k hk => ⟨trivial, hk.2⟩) (fun _ _ => trivial) h2 (World.grownBy.trans (World.grownBy_alloc W _ _) h3) hat, World.grownBy.trans (World.grownBy_alloc W _ _) h3⟩

/-- A range over an iterator of one's own that hands out rows of bytes and keeps cells of its own. -/
theorem range_law {P : Program} {g : Operand} {ps : Array Tmp} {assign body : Code} {Q : Exit → Act → World → Prop} {a : Act} {w : World} {gf : Nat} {lb : Array Value} (hg : a.eval g = .func (.func gf) #[] lb)
    (eg : ∀ args w, (callFunc gf args).run P w = .ok (.enter gf args) w) (I : List (List Int) → World → Prop) (n0 N : Nat) (X : List (List Int))
    (hIb : ∀ pre W W', I pre W → Below W.heap.size W W' → I pre W')
    (hIp : ∀ pre W k o o', I pre W → w.heap.size ≤ k → W.heap[k]? = some o → o.isCells = false → I pre (W.putObj k o')) (h0 : I [] w)
    (hit : ∀ (J : List (List Int) → World → Prop) (l : Nat) (W1 : World), (∀ pre W W', J pre W → Below W.heap.size W W' → J pre W') → (∀ pre W, J pre W → I pre W) → J [] W1 →
      (∀ pre (k : Int) v b W, J pre W → pre.length < N → OwnB W n0 v b → YieldAt Fence.wide 2 P l #[.int .i64 k, v] W fun e W' => e = .returned (.bool true) ∧ J (pre ++ [b]) W') →
      CallsIn Fence.wide 3 P gf (#[.func (.yield l) #[] #[]] ++ lb) W1 fun e W' => (∃ v, e = .returned v) ∧ J X W')
    (a₁ : Int → Value → Act) (hps : ps.size = 2)
    (hassign : ∀ (l : Nat) (k : Int) (v : Value) (W : World) (K : Act → World → Prop), K (a₁ k v) W → assign.wpIn (Fence.wide.inRound l) 2 P (Exit.then K (fun _ _ _ => False)) { tmps := (ps.zip #[.int .i64 k, v]).foldl (fun t (p, v) => t.setIfInBounds p v) a.tmps, defers := [] } W)
    (hbody : ∀ (l : Nat) (pre : List (List Int)) (k : Int) (v : Value) (b : List Int) (W : World), I pre W → pre.length < N → OwnB W n0 v b →
      body.wpIn (Fence.wide.inRound l) 2 P (fun e _ W' => e = .normal ∧ (∀ (k : Nat) (o : Obj), W.heap[k]? = some o → o.isCells = false → W'.heap[k]? = some o) ∧ I (pre ++ [b]) W') (a₁ k v) W)
    (hdone : ∀ (D : Nat) (W : World), w.heap.size ≤ D → I X W → W.heap[D]? = some (.deferred (some [])) → Q .normal { a with defers := { target := .collected D, args := #[] } :: a.defers } W) :
    (Code.rangeFunc g ps assign body).wpIn Fence.wide 4 P Q a w := by
  refine wpIn_rangeFunc ?_
  intro fn hfn
  obtain ⟨rec, hrec⟩ : ∃ rec : LoopState → Option Code → Loop, rec = fun st pe => { state := st, pending := pe, fn, tmps := a.tmps, params := ps, assign, body, defers := w.heap.size } := ⟨_, rfl⟩
  obtain ⟨W1, hW1⟩ : ∃ W1, (w.alloc (.deferred (some []))).alloc (.loop (rec .ready none)) = W1 := ⟨_, rfl⟩
  have hL1 : W1.heap[w.heap.size + 1]? = some (.loop (rec .ready none)) := by
    rw [← hW1]; have := World.alloc_heap_new (w.alloc (.deferred (some []))) (.loop (rec .ready none)); rwa [World.size_alloc] at this
  have hK1 : W1.heap[w.heap.size]? = some (.deferred (some [])) := by
    rw [← hW1]; exact (Below.heap_alloc _ _ _ (by simp)).trans (World.alloc_heap_new w _)
  have hI1 : I [] W1 := hIb _ _ _ h0 (by rw [← hW1]; exact ((Below.refl _ w).alloc (Nat.le_refl _) _).alloc (by simp) _)
  refine ⟨w.heap.size + 1, [{ target := .collected w.heap.size, args := #[] }], W1, { target := .fn (.func gf) lb, args := #[.func (.yield (w.heap.size + 1)) #[] #[]] }, W1, gf,
    #[.func (.yield (w.heap.size + 1)) #[] #[]] ++ lb, W1, ?_, ?_, ?_, ?_, fun _ => by omega, ?_⟩
  · rw [← hW1, hrec]; exact run_enterLoop_outer _ _ _ _ _
  · simp only [resolve, hg]
    simp [go_sem]
  · intro f' hf'
    trivial
  · simp [invoke, go_sem, eg]
  refine (hit (fun pre W => I pre W ∧ W.heap[w.heap.size + 1]? = some (.loop (rec .ready none)) ∧ W.heap[w.heap.size]? = some (.deferred (some []))) (w.heap.size + 1) W1 ?_ (fun _ _ h => h.1) ⟨hI1, hL1, hK1⟩ ?_).mono ?_
  · rintro pre W W' ⟨hi, hl, hk⟩ hb
    exact ⟨hIb _ _ _ hi hb, (hb.block _ (Array.getElem?_eq_some_iff.1 hl).1).trans hl, (hb.block _ (Array.getElem?_eq_some_iff.1 hk).1).trans hk⟩
  · rintro pre k v b W ⟨hi, hl, hk⟩ hlen hown
    have hlt : w.heap.size + 1 < W.heap.size := (Array.getElem?_eq_some_iff.1 hl).1
    have hy := run_yield (P := P) (args := #[.int .i64 k, v]) hl (by rw [hrec]; exact hps.symm)
    rw [hrec] at hy
    refine ⟨fn, _, assign, body, hy, roundIn_of_wpIn hfn (hassign _ k v W _ ⟨_, run_beginRound hl (by rw [hrec]), ?_⟩)⟩
    have hl2 : (W.putObj (w.heap.size + 1) (.loop { rec .ready none with state := .busy })).heap[w.heap.size + 1]? = some (.loop { rec .ready none with state := .busy }) := World.putObj_heap_same hlt
    have hk2 : (W.putObj (w.heap.size + 1) (.loop { rec .ready none with state := .busy })).heap[w.heap.size]? = some (.deferred (some [])) := (World.putObj_heap_other (by omega)).trans hk
    refine wpIn_mono (hbody _ pre k v b _ (hIp _ _ _ _ _ hi (by omega) hl rfl) hlen (hown.putObj _ hl rfl)) ?_
    rintro e a3 W3 ⟨rfl, hkeep, hi3⟩
    have hl3 := hkeep _ _ hl2 rfl
    have hk3 := hkeep _ _ hk2 rfl
    have hr := run_endRound (P := P) none hl3
    rw [hrec] at hr
    refine ⟨_, _, hr, rfl, hIp _ _ _ _ _ hi3 (by omega) hl3 rfl, ?_, (World.putObj_heap_other (by omega)).trans hk3⟩
    rw [World.putObj_heap_same (Array.getElem?_eq_some_iff.1 hl3).1, hrec]
    rfl
  · rintro e W2 ⟨⟨v, rfl⟩, hi, hl, hk⟩
    exact ⟨none, _, by have := run_endLoop (P := P) hl (by rw [hrec]; simp); rw [hrec] at this; exact this, hdone _ _ (Nat.le_refl _) (hIp _ _ _ _ _ hi (by omega) hl rfl) ((World.putObj_heap_other (by omega)).trans hk)⟩

/-- What lies while the records are read. -/
def IO (w : World) (q : Nat) (lo m : Int) (vq : Value) (pre : List (List Int)) (W : World) : Prop :=
  ∃ v, Blk W (w.heap.size + 1) 29 #[.int .i64 lo, .int .i64 m, v, .int .i64 0] ∧ OwnL W w.heap.size v pre ∧ Below w.heap.size w W ∧ Blk W q 22 #[vq]
theorem IO.below {w W W' : World} {q : Nat} {lo m : Int} {vq : Value} {pre : List (List Int)} (h : IO w q lo m vq pre W) (hb : Below W.heap.size W W') : IO w q lo m vq pre W' := by
  obtain ⟨v, h1, h2, h3, h4⟩ := h
  exact ⟨v, h1.below hb h1.lt, h2.below hb, h3.trans (hb.mono h3.size), h4.below hb h4.lt⟩
theorem IO.putObj {w wl W : World} {q : Nat} {lo m : Int} {vq : Value} {pre : List (List Int)} (hq : q < wl.heap.size) (hg : w.heap.size + 1 < wl.heap.size) (k : Nat) (o o' : Obj) (h : IO w q lo m vq pre W) (hk : wl.heap.size ≤ k) (ho : W.heap[k]? = some o) (hc : o.isCells = false) : IO w q lo m vq pre (W.putObj k o') := by
  obtain ⟨v, h1, h2, h3, h4⟩ := h
  refine ⟨v, h1.putObj o' (by omega), h2.putObj o' ho hc, h3.trans ?_, h4.putObj o' (by omega)⟩
  have := (Array.getElem?_eq_some_iff.1 ho).1
  exact (Below.refl w.heap.size W).grown (grownBy_putObj' W k o') (by omega) (fun j e => by cases e; omega)

theorem records_any (A : Option Addr) (n c : Nat) (w : World) : Calls Try.prog 16 #[.slice A n c] w fun e w' => e = .returned (.func (.func 33) #[] #[.pointer (some ⟨w.heap.size, 0, none⟩)]) ∧ w.alloc (.cells #[.slice A n c] 22) = w' := by
  go_enter Try.func16, Try.ntmps16
  go_wp2
  go_ret
  exact ⟨rfl, rfl⟩

set_option maxHeartbeats 8000000 in
set_option maxRecDepth 100000 in
theorem wOpen_yes (L : List (List Int)) (left tear : Int) (st : Bool) (first many : Int) (A : Option Addr) (c : Nat) (w : World) (h : Ls w A L) (hb : ∀ s ∈ L, N8 s) (hc : L.length ≤ c) (hlen : L.length ≤ 140737488351232)
    (hf : -9223372036854775808 ≤ first ∧ first ≤ 9223372036854775807) (hm : -9223372036854775808 ≤ many ∧ many ≤ 9223372036854775807) (hok : okD L left tear st = true) (hba : badArg L.length first many = false) (hst : st = false) :
    Calls Try.prog 6 #[.agg #[.slice A L.length c, .int .i64 left, .int .i64 tear, .bool st], .int .i64 first, .int .i64 many] w (OpenPost (openS L left tear st first many) w) := by
  have HR := Aside0.mk h
  have C : Aside0 (Calls Try.prog 15 #[.agg #[.slice A L.length c, .int .i64 left, .int .i64 tear, .bool st]] ((w.alloc (.cells (boxD L left tear st A c) 24)).alloc (.cells zeroLog 29)) fun e w1 => e = .returned (.int .i64 (ckD L left tear st)) ∧ Opened L left tear st A c w w1) :=
    ⟨(Check_any L left tear st A c _ (Kd.C_below h (((Below.refl _ w).alloc (Nat.le_refl _) _).alloc (by simp) _)) hlen).mono fun e w1 hh => ⟨hh.1, Opened.of hh.2⟩⟩
  clear h
  have C' := C.out
  rw [ckD_yes hok] at C'
  replace C := Aside0.mk C'
  clear C'
  have hS := Aside0.mk (secs_of hok hb)
  have hn : L.length ≤ 4096 := hS.out.1
  have hba' : decide (first < 0) = false ∧ decide (many < 1) = false ∧ decide ((L.length : Int) < many) = false ∧ IntKind.i64.wrap ((L.length : Int) - many) = (L.length : Int) - many ∧ decide ((L.length : Int) - many < first) = false := by
    simp only [badArg, Bool.or_eq_false_iff, decide_eq_false_iff_not] at hba
    simp only [decide_eq_false_iff_not]
    exact ⟨by omega, by omega, by omega, IntWalk.i64_in _ (by omega), by omega⟩
  obtain ⟨e1, e2, e3, e4, e5⟩ := hba'
  subst hst
  obtain ⟨lo, rfl⟩ : ∃ lo : Nat, first = lo := ⟨first.toNat, by simp only [decide_eq_false_iff_not] at e1; omega⟩
  obtain ⟨m, rfl⟩ : ∃ m : Nat, many = m := ⟨many.toNat, by simp only [decide_eq_false_iff_not] at e2; omega⟩
  have hm1 : 1 ≤ m ∧ lo + m ≤ L.length := by simp only [decide_eq_false_iff_not] at e1 e2 e3 e5; omega
  obtain ⟨ad, B0, c0, rfl, _⟩ := HR.out.at_ 0 (by omega)
  have HE : Aside0 (openS L left tear false (lo : Int) (m : Int) = ((lo : Int), (m : Int), recS ((L.take (lo + m)).drop lo), (0 : Int))) := ⟨by
    rw [openS, if_neg (by simp [hok]), if_neg (by simp [hba]), if_neg (by simp)]
    rw [show ((lo : Int) + (m : Int)).toNat = lo + m by omega, show ((lo : Int)).toNat = lo by omega]⟩
  rw [HE.out]
  have hlp : ((L.take (lo + m)).drop lo).length = m := by rw [List.length_drop, List.length_take]; omega
  have hw : IntKind.i64.wrap ((lo : Int) + (m : Int)) = (lo : Int) + (m : Int) := IntWalk.i64_in _ (by omega)
  have hsl : ∀ W, (Instr.slice 22 (.slice (some ad) L.length c) (some (.int .i64 (lo : Int))) (some (.int .i64 ((lo : Int) + (m : Int)))) none).run Try.prog W = .ok (.slice (if c = lo then some ad else some (ad.add lo)) m (c - lo)) W := fun W => by
    have := slice_run (P := Try.prog) 22 25 (by rfl) (by rfl) (some ad) L.length c lo (lo + m) (by omega) (by omega) hc W
    rw [show lo + m - lo = m by omega, Int.natCast_add] at this
    exact this
  have hne : (if c = lo then some ad else some (ad.add lo)) = some (ad.add lo) := if_neg (by omega)
  rw [hne] at hsl
  have HX : Aside0 (Ls w (some (ad.add lo)) ((L.take (lo + m)).drop lo)) := ⟨Ls.part HR.out lo (lo + m) hm1.2⟩
  have HSX : Aside0 (Secs ((L.take (lo + m)).drop lo)) := ⟨hS.out.part lo (lo + m)⟩
  have HCX : Aside0 (((L.take (lo + m)).drop lo).length ≤ c - lo) := ⟨by rw [hlp]; omega⟩
  have HLX := Aside0.mk hlp
  have HLM : Aside0 (m ≤ 4096) := ⟨by omega⟩
  have e3' : decide (L.length < m) = false := decide_eq_false (by omega)
  clear hok HE hba hm1 hlp hne HR hS
  generalize (L.take (lo + m)).drop lo = X at *
  refine (callsIn_wide (n := 4)).1 ?_
  refine callsIn_of_wp_marks Try.func6 rfl trivial ?_ rfl
  simp only [Try.ntmps6, List.size_toArray, List.length_cons, List.length_nil, Nat.reduceAdd, Nat.reduceSub, Array.replicate_succ, Array.replicate_zero, List.push_toArray, List.append_toArray, List.nil_append, List.cons_append]
  gi_wp2_with (first
    | (refine ⟨trivial, ?_⟩; gi_at_call 15; refine (callsIn_wide.2 C.out).mono ?_; rintro e w1 ⟨rfl, ho⟩; obtain ⟨z0, z1, z2, z3⟩ := zeroLog0 ho.res; obtain ⟨y0, y1, y2, y3⟩ := box0 ho.box; have f0 := ho.res.frozen 0; have f1 := ho.res.frozen 1; have f2 := ho.res.frozen 2; have f3 := ho.res.frozen 3; have HO := Aside0.mk ho; clear ho)
    | (refine ⟨trivial, ?_⟩; gi_at_call 16; refine (callsIn_wide.2 (records_any _ _ _ _)).mono ?_; rintro e w2 ⟨rfl, rfl⟩))
  have hs4 : (set4 w1 (w.heap.size + 1) (.int .i64 lo) (.int .i64 m) (.slice none 0 0) (.int .i64 0)).heap.size = w1.heap.size := by simp
  have HI0 : Aside0 (IO w w1.heap.size lo m (.slice (some (ad.add lo)) m (c - lo)) [] ((set4 w1 (w.heap.size + 1) (.int .i64 lo) (.int .i64 m) (.slice none 0 0) (.int .i64 0)).alloc (.cells #[.slice (some (ad.add lo)) m (c - lo)] 22))) :=
    ⟨_, (set4_blk HO.out.res _ _ _ _).alloc _, Kd.R_nil _ _ _ _ _, (set4_below HO.out.below (by omega) _ _ _ _).alloc (set4_below HO.out.below (by omega) _ _ _ _).size _, by rw [← hs4]; exact Blk.new _ _ _⟩
  have hg5 : w.heap.size + 1 < w1.heap.size := HO.out.res.lt
  have hq5 : w1.heap.size + 1 = ((set4 w1 (w.heap.size + 1) (.int .i64 lo) (.int .i64 m) (.slice none 0 0) (.int .i64 0)).alloc (.cells #[.slice (some (ad.add lo)) m (c - lo)] 22)).heap.size := by rw [← hs4]; exact (World.size_alloc _ _).symm
  clear z0 z1 z2 z3 y0 y1 y2 y3 f0 f1 f2 f3 hs4
  generalize ((set4 w1 (w.heap.size + 1) (.int .i64 lo) (.int .i64 m) (.slice none 0 0) (.int .i64 0)).alloc (.cells #[.slice (some (ad.add lo)) m (c - lo)] 22)) = W5 at *
  generalize w1.heap.size = q at *
  refine' range_law (gf := 33) (lb := #[.pointer (some ⟨q, 0, none⟩)]) rfl (enters_of Try.func33 (by kernel_rfl) rfl) (IO w q lo m (.slice (some (ad.add lo)) m (c - lo))) w.heap.size X.length (recS X)
    (fun _ _ _ h hb => h.below hb) (fun pre W k o o' h hk ho hc => h.putObj (wl := W5) (by omega) (by omega) k o o' hk ho hc) HI0.out
    (fun J l W1 hJB hJI hJ0 hY => records1_any l q X (some (ad.add lo)) (c - lo) w J HX.out HSX.out HCX.out hJB (fun pre W hj => by
      obtain ⟨v, h1, h2, h3, h4⟩ := hJI _ _ hj
      rw [HLX.out]
      exact ⟨h4, h3⟩) hY W1 hJ0) _ rfl _ _ _
  rotate_left
  · intro l k v W K hK
    gi_wp2
    exact hK
  · intro l pre k v b W hI hlt hown
    obtain ⟨v0, h1, h2, h3, h4⟩ := hI
    obtain ⟨Ab, cb, rfl, _, _⟩ := hown.rd
    obtain ⟨v1, w1, hrun, ho1, hg1⟩ := app_row h2 hown h3.size (by have := HLX.out; have := HLM.out; omega)
    obtain ⟨A0, c0, hv0, _, _⟩ := h2.ls
    obtain ⟨A1, c1, hv1, _, _⟩ := ho1.ls
    have hne29 : some (w.heap.size + 1) ≠ v0.ownBlock := Kd.R_ne h2 h1 (by decide)
    have hne22 : some q ≠ v0.ownBlock := Kd.R_ne h2 h4 (by decide)
    have B29 := h1.grown hg1 hne29
    have B22 := h4.grown hg1 hne22
    have HK : Aside0 ((∀ (k : Nat) (o : Obj), W.heap[k]? = some o → o.isCells = false → (w1.setCell ⟨w.heap.size + 1, 2, none⟩ v1).heap[k]? = some o) ∧ IO w q (lo : Int) (m : Int) (.slice (some (ad.add lo)) m (c - lo)) (pre ++ [b]) (w1.setCell ⟨w.heap.size + 1, 2, none⟩ v1)) := ⟨by
      refine ⟨fun j o hj ho => ?_, v1, B29.set_ 2 v1, ho1.set B29 2 v1, (h3.grown hg1 h3.size (fun j e => Kd.R_base h2 j e)).setCell (p := ⟨w.heap.size + 1, 2, none⟩) (by simp) v1, B22.far ?_ v1⟩
      · have hjg : j ≠ w.heap.size + 1 := by
          rintro rfl
          rw [show W.heap[w.heap.size + 1]? = _ from h1] at hj
          cases hj
          cases ho
        rw [Below.heap_setCell w1 ⟨w.heap.size + 1, 2, none⟩ v1 j hjg]
        refine (hg1.block j (Array.getElem?_eq_some_iff.1 hj).1 ?_).trans hj
        intro e
        obtain ⟨cells, hc⟩ := Kd.R_typed h2 j e.symm
        rw [hc] at hj
        cases hj
        cases ho
      · intro e
        have e' : q = w.heap.size + 1 := e
        have h4' := h4
        rw [e'] at h4'
        have := (show W.heap[w.heap.size + 1]? = _ from h1).symm.trans h4'
        cases this⟩
    obtain ⟨z0, z1, z2, z3⟩ := cells4 h1
    have f2 := B29.frozen 2
    obtain ⟨y0, y1, y2, y3⟩ := cells4 B29
    subst hv0
    subst hv1
    clear hown h1 h2 h3 h4 ho1 hg1 B29 B22 hne29 hne22
    gi_wp2_with (gi_at_builtin; refine wpListIn_append_run rfl (.tmp 57) (.tmp 59) 22 22 rfl rfl _ _ _ rfl rfl hrun ?_)
    have hk := HK.out
    rw [show (pre ++ [b]).length = pre.length + 1 by simp] at hk
    exact hk
  · intro D W hD hI hk
    obtain ⟨v0, h1, h2, h3, h4⟩ := hI
    obtain ⟨A2, c2, rfl, hc2, hl2⟩ := h2.ls
    obtain ⟨z0, z1, z2, z3⟩ := cells4 h1
    have f0 := h1.frozen 0
    have f1 := h1.frozen 1
    have f2 := h1.frozen 2
    have f3 := h1.frozen 3
    have H1 := Aside0.mk h1
    have H2 := Aside0.mk h2
    have H3 := Aside0.mk h3
    have HK := Aside0.mk hk
    have HC2 := Aside0.mk hc2
    clear h1 h2 h3 h4 hk hc2 hl2
    have hne : D ≠ w.heap.size + 1 := by omega
    have B3 := H1.out.set_ 3 (.int .i64 (recS X).length)
    have B := set4_blk (x0 := .int .i64 lo) (x1 := .int .i64 m) (x2 := .slice A2 (recS X).length c2) (x3 := .int .i64 (recS X).length) B3 (.int .i64 lo) (.int .i64 m) (.slice A2 (recS X).length c2) (.int .i64 (recS X).length)
    have hk' : (set4 (W.setCell ⟨w.heap.size + 1, 3, none⟩ (.int .i64 (recS X).length)) (w.heap.size + 1) (.int .i64 lo) (.int .i64 m) (.slice A2 (recS X).length c2) (.int .i64 (recS X).length)).heap[D]? = some (.deferred (some [])) := by
      simp only [set4]
      rw [Below.heap_setCell _ _ _ D hne, Below.heap_setCell _ _ _ D hne, Below.heap_setCell _ _ _ D hne, Below.heap_setCell _ _ _ D hne, Below.heap_setCell _ _ _ D hne]
      exact HK.out
    have BP := Aside0.mk (B.putObj (.deferred none) (Ne.symm hne))
    have LP := Aside0.mk (((H2.out.set H1.out 3 (.int .i64 (recS X).length)).set4 (x0 := .int .i64 lo) (x1 := .int .i64 m) (x2 := .slice A2 (recS X).length c2) (x3 := .int .i64 (recS X).length) B3 (.int .i64 lo) (.int .i64 m) (.slice A2 (recS X).length c2) (.int .i64 (recS X).length)).putObj (.deferred none) hk' rfl)
    have W3 := set4_below (g := w.heap.size + 1) (H3.out.setCell (p := ⟨w.heap.size + 1, 3, none⟩) (by simp) (.int .i64 (recS X).length)) (by omega) (.int .i64 lo) (.int .i64 m) (.slice A2 (recS X).length c2) (.int .i64 (recS X).length)
    have WP := Aside0.mk (W3.grown (grownBy_putObj' _ D (.deferred none)) W3.size (fun j e => by cases e; omega))
    have HT := Aside0.mk (run_takeDeferred (P := Try.prog) hk')
    clear B3 B W3 hk'
    gi_wp2
    refine ⟨by simp, .inl ⟨_, _, rfl, HT.out, ?_⟩⟩
    obtain ⟨q0, q1, q2, q3⟩ := cells4 BP.out
    obtain ⟨A3, c3, hv3, hc3, hl3⟩ := LP.out.ls
    obtain ⟨rfl, rfl⟩ : A2 = A3 ∧ c2 = c3 := by injection hv3 with h1 h2 h3; exact ⟨h1, h3⟩
    refine ⟨.tuple #[.agg #[.int .i64 lo, .int .i64 m, .slice A2 (recS X).length c2, .int .i64 (recS X).length], .int .i64 0], by simp [results, Try.results6, go_sem, q0, q1, q2, q3], ?_⟩
    exact ⟨A2, c2, rfl, hc3, hl3, WP.out⟩

set_option maxHeartbeats 4000000 in
set_option maxRecDepth 100000 in
theorem wOpen_any (L : List (List Int)) (left tear : Int) (st : Bool) (first many : Int) (A : Option Addr) (c : Nat) (w : World) (h : Ls w A L) (hb : ∀ s ∈ L, N8 s) (hc : L.length ≤ c) (hlen : L.length ≤ 140737488351232)
    (hf : -9223372036854775808 ≤ first ∧ first ≤ 9223372036854775807) (hm : -9223372036854775808 ≤ many ∧ many ≤ 9223372036854775807) :
    Calls Try.prog 6 #[.agg #[.slice A L.length c, .int .i64 left, .int .i64 tear, .bool st], .int .i64 first, .int .i64 many] w (OpenPost (openS L left tear st first many) w) := by
  rcases Bool.eq_false_or_eq_true (okD L left tear st) with hok | hok
  · rcases Bool.eq_false_or_eq_true (badArg L.length first many) with hba | hba
    · exact wOpen_arg L left tear st first many A c w h hb hc hlen hf hm hok hba
    · rcases Bool.eq_false_or_eq_true st with hst | hst
      · exact wOpen_st L left tear st first many A c w h hb hc hlen hf hm hok hba hst
      · exact wOpen_yes L left tear st first many A c w h hb hc hlen hf hm hok hba hst
  · exact wOpen_no L left tear st first many A c w h hb hc hlen hf hm hok
end Go.Proofs.Ytfoojamabjpdpaa.Wal
