import Derived.Deep.DeepCutAuto
import Derived.Deep.RegionHeld3
import Derived.Lib.SlBytesConst
import Derived.Test.YtfoojamabjpdpaaD6
/- The closed run: sane, up to the Append that is refused. -/
namespace Go.Proofs.Ytfoojamabjpdpaa.Wal
open Go.RowKit Go.Proofs.YtfoojamabjpdpaaW.PrintWords Go.Proofs.YtfoojamabjpdpaaW.PrintLast Go.Proofs.YtfoojamabjpdpaaW.PrintMore Go.Proofs.Ytfoojamabjpdpaa.PWalOpenSpec
attribute [local go_sem] max2_int min2_int max_two min_two max_three min_three max_four min_four
set_option linter.unusedVariables false
set_option linter.unusedSimpArgs false

abbrev l0cells (A : Option Addr) (c : Nat) : Array Value := #[.int .i64 0, .int .i64 1, .slice A 0 c, .int .i64 0]
theorem openZ0 : openS [Z, Z] (-1) 0 false 0 0 = (0, 0, [], 1) := by kernel_rfl
/-- What lies when the first log is open. -/
structure T3 (w : World) (n1 n3 g b0 b1 : Nat) (A : Option Addr) (c : Nat) (W : World) : Prop where
  disk : Blk W n1 24 (dcells g)
  log : Blk W n3 29 (l0cells A c)
  two : Disk2 W g b0 b1
  ls : Ls W A []
  below : Below w.heap.size w W
theorem T3.on {w : World} {n1 n3 g b0 b1 : Nat} {A : Option Addr} {c : Nat} {W W' : World} (h : T3 w n1 n3 g b0 b1 A c W) (hb : Below W.heap.size W W') : T3 w n1 n3 g b0 b1 A c W' :=
  ⟨h.disk.below hb h.disk.lt, h.log.below hb h.log.lt, h.two.below hb, Kd.C_below h.ls hb, h.below.trans (hb.mono h.below.size)⟩
theorem Zr.blk {w : World} {v : Value} (h : Zr w v) : ∃ b, v = sl128 b ∧ Blk w b 5 (u8s Z) := h
theorem zz_n8 : ∀ s ∈ [Z, Z], N8 s := by intro s hs; simp at hs; subst hs; exact Z_n8
theorem T3.alloc {w : World} {n1 n3 g b0 b1 : Nat} {A : Option Addr} {c : Nat} {W : World} (h : T3 w n1 n3 g b0 b1 A c W) (o : Obj) : T3 w n1 n3 g b0 b1 A c (W.alloc o) := h.on ((Below.refl _ W).alloc (Nat.le_refl _) o)
theorem d1_start {w w1 : World} {g b0 b1 : Nat} (hg : Blk w1 g 25 #[sl128 b0, sl128 b1]) (h0 : Blk w1 b0 5 (u8s Z)) (h1 : Blk w1 b1 5 (u8s Z)) (hb : Below w.heap.size w w1) :
    Blk (w1.alloc (.cells (dcells g) 24)) w1.heap.size 24 (dcells g) ∧ Disk2 (w1.alloc (.cells (dcells g) 24)) g b0 b1 ∧ Below w.heap.size w (w1.alloc (.cells (dcells g) 24)) :=
  ⟨Blk.new w1 24 _, (Disk2.mk hg h0 h1).below ((Below.refl _ w1).alloc (Nat.le_refl _) _), hb.alloc hb.size _⟩
theorem T3.start {w W w2 : World} {n1 g b0 b1 : Nat} {A : Option Addr} {c : Nat} (hB : Blk W n1 24 (dcells g)) (hd : Disk2 W g b0 b1) (hb : Below w.heap.size w W) (hb2 : Below W.heap.size W w2) (hl : Ls w2 A []) :
    T3 w n1 w2.heap.size g b0 b1 A c (w2.alloc (.cells (l0cells A c) 29)) :=
  have ha := (Below.refl w2.heap.size w2).alloc (Nat.le_refl _) (.cells (l0cells A c) 29)
  ⟨(hB.below hb2 hB.lt).alloc _, Blk.new w2 29 _, (hd.below hb2).below ha, Kd.C_below hl ha, (hb.trans (hb2.mono hb.size)).trans (ha.mono (Nat.le_trans hb.size hb2.size))⟩
theorem T3.drew {w : World} {n1 n3 g b0 b1 : Nat} {A : Option Addr} {c : Nat} {W : World} (h : T3 w n1 n3 g b0 b1 A c W) : T3 w n1 n3 g b0 b1 A c W.drew := h.on (pw_below_drewN (Below.refl _ _) 1)
theorem cells_log {w : World} {g : Nat} {a b c d : Value} (h : Blk w g 29 #[a, b, c, d]) : (w.cell? ⟨g, 0, none⟩ = some a ∧ w.cell? ⟨g, 1, none⟩ = some b ∧ w.cell? ⟨g, 2, none⟩ = some c ∧ w.cell? ⟨g, 3, none⟩ = some d) ∧ w.frozen? ⟨g, 0, none⟩ = false ∧ w.frozen? ⟨g, 1, none⟩ = false ∧ w.frozen? ⟨g, 2, none⟩ = false ∧ w.frozen? ⟨g, 3, none⟩ = false :=
  ⟨cells4 h, h.frozen 0, h.frozen 1, h.frozen 2, h.frozen 3⟩
theorem log_keep1 {V w4 : World} {a b c d : Value} (hb : Below ((V.alloc (.cells #[a, b, c, d] 29)).drew).heap.size ((V.alloc (.cells #[a, b, c, d] 29)).drew) w4) : (w4.cell? ⟨V.heap.size, 0, none⟩ = some a ∧ w4.cell? ⟨V.heap.size, 1, none⟩ = some b ∧ w4.cell? ⟨V.heap.size, 2, none⟩ = some c ∧ w4.cell? ⟨V.heap.size, 3, none⟩ = some d) ∧ w4.frozen? ⟨V.heap.size, 0, none⟩ = false ∧ w4.frozen? ⟨V.heap.size, 1, none⟩ = false ∧ w4.frozen? ⟨V.heap.size, 2, none⟩ = false ∧ w4.frozen? ⟨V.heap.size, 3, none⟩ = false :=
  cells_log (Blk.below (show Blk (V.alloc (.cells #[a, b, c, d] 29)).drew V.heap.size 29 #[a, b, c, d] from Blk.new V 29 #[a, b, c, d]) hb (Blk.new V 29 #[a, b, c, d]).lt)
theorem log_keep2 {V w4 : World} {a b c d : Value} {o : Obj} (hb : Below (((V.alloc (.cells #[a, b, c, d] 29)).alloc o).drew).heap.size (((V.alloc (.cells #[a, b, c, d] 29)).alloc o).drew) w4) : (w4.cell? ⟨V.heap.size, 0, none⟩ = some a ∧ w4.cell? ⟨V.heap.size, 1, none⟩ = some b ∧ w4.cell? ⟨V.heap.size, 2, none⟩ = some c ∧ w4.cell? ⟨V.heap.size, 3, none⟩ = some d) ∧ w4.frozen? ⟨V.heap.size, 0, none⟩ = false ∧ w4.frozen? ⟨V.heap.size, 1, none⟩ = false ∧ w4.frozen? ⟨V.heap.size, 2, none⟩ = false ∧ w4.frozen? ⟨V.heap.size, 3, none⟩ = false :=
  cells_log (Blk.below (show Blk ((V.alloc (.cells #[a, b, c, d] 29)).alloc o).drew V.heap.size 29 #[a, b, c, d] from (Blk.new V 29 #[a, b, c, d]).alloc o) hb ((Blk.new V 29 #[a, b, c, d]).alloc o).lt)
theorem keep4 {W W' : World} {g : Nat} {a b c d : Value} (h : W'.heap[g]? = W.heap[g]?) (hS : W.cell? ⟨g, 0, none⟩ = some a ∧ W.cell? ⟨g, 1, none⟩ = some b ∧ W.cell? ⟨g, 2, none⟩ = some c ∧ W.cell? ⟨g, 3, none⟩ = some d) :
    W'.cell? ⟨g, 0, none⟩ = some a ∧ W'.cell? ⟨g, 1, none⟩ = some b ∧ W'.cell? ⟨g, 2, none⟩ = some c ∧ W'.cell? ⟨g, 3, none⟩ = some d :=
  ⟨(World.cell?_of_block (a := ⟨g, 0, none⟩) h).trans hS.1, (World.cell?_of_block (a := ⟨g, 1, none⟩) h).trans hS.2.1, (World.cell?_of_block (a := ⟨g, 2, none⟩) h).trans hS.2.2.1, (World.cell?_of_block (a := ⟨g, 3, none⟩) h).trans hS.2.2.2⟩
theorem rd_new (W : World) (l : List Int) (fr : Nat × Nat) (hl : l.length ≤ 140737488351232) : Rd (W.alloc (.cells (u8s l) 5 fr)) (some ⟨W.heap.size, 0, none⟩) l :=
  Rd.of (fun k hk => by
    rw [show (⟨W.heap.size, 0, none⟩ : Addr).add k = ⟨W.heap.size, k, none⟩ by unfold Addr.add; split <;> simp_all, cell_of_row _ _ k _ 5 fr (heap_alloc_new W _)]
    exact u8s_at l k hk) (by omega)
theorem blk_second (W : World) (t t' : Nat) (cs cs' : Array Value) : Blk ((W.alloc (.cells cs t)).alloc (.cells cs' t')) (W.heap.size + 1) t' cs' := by
  have := Blk.new (W.alloc (.cells cs t)) t' cs'
  rwa [World.size_alloc] at this
theorem ls_up2 {W : World} {A : Option Addr} {L : List (List Int)} (h : Ls W A L) (o o' : Obj) : Ls ((W.alloc o).alloc o') A L :=
  Kd.C_below h (((Below.refl _ W).alloc (Nat.le_refl _) o).alloc (by simp) o')
theorem DAB_n8 : N8 DAB := D6_n8 _ _ _ _ (by intro x hx; simp at hx; omega) (by decide) (by decide)
theorem dz_n8 : ∀ s ∈ [DAB, Z], N8 s := by
  intro s hs
  rcases List.mem_cons.1 hs with rfl | hs
  · exact DAB_n8
  · obtain rfl : s = Z := by simpa using hs
    exact Z_n8
/-- What the closing tests read. -/
structure F9 (n11 : Nat) (A1 : Option Addr) (c1 n14 : Nat) (ad3 : Addr) (c3 : Nat) (B3 : Option Addr) (cb3 : Nat) (W : World) : Prop where
  b11 : Blk W n11 29 (lcells A1 c1 1)
  b14 : Blk W n14 29 #[.int .i64 0, .int .i64 1, .slice (some ad3) 1 c3, .int .i64 1]
  lt : ad3.block < W.heap.size
  x : W.cell? ad3 = some (.slice B3 2 cb3)
  rd : Rd W B3 [97, 98]
theorem F9.on {n11 : Nat} {A1 : Option Addr} {c1 n14 : Nat} {ad3 : Addr} {c3 : Nat} {B3 : Option Addr} {cb3 : Nat} {W W' : World} (h : F9 n11 A1 c1 n14 ad3 c3 B3 cb3 W) (hb : Below W.heap.size W W') : F9 n11 A1 c1 n14 ad3 c3 B3 cb3 W' :=
  ⟨h.b11.below hb h.b11.lt, h.b14.below hb h.b14.lt, Nat.lt_of_lt_of_le h.lt hb.size, pw_cell_below hb h.x, Kd.C_below h.rd hb⟩
theorem F9.start {n11 : Nat} {A1 : Option Addr} {c1 : Nat} {A3 : Option Addr} {c3 : Nat} {W : World} (hB : Blk W n11 29 (lcells A1 c1 1)) (hl : Ls W A3 [[97, 98]]) : ∃ ad3 B3 cb3, A3 = some ad3 ∧ F9 n11 A1 c1 W.heap.size ad3 c3 B3 cb3 (W.alloc (.cells #[.int .i64 0, .int .i64 1, .slice A3 1 c3, .int .i64 1] 29)) := by
  obtain ⟨ad, B, cb, rfl, hx, _, hr⟩ := hl.at_ 0 (by decide)
  have hx' : W.cell? ad = some (.slice B 2 cb) := hx
  have ha := (Below.refl W.heap.size W).alloc (Nat.le_refl _) (.cells #[.int .i64 0, .int .i64 1, .slice (some ad) 1 c3, .int .i64 1] 29)
  exact ⟨ad, B, cb, rfl, hB.alloc _, Blk.new W 29 _, Nat.lt_of_lt_of_le (World.block_lt_of_cell? W ad hx') ha.size, pw_cell_below ha hx', Kd.C_below hr ha⟩
theorem F9.facts {n11 : Nat} {A1 : Option Addr} {c1 n14 : Nat} {ad3 : Addr} {c3 : Nat} {B3 : Option Addr} {cb3 : Nat} {W : World} (h : F9 n11 A1 c1 n14 ad3 c3 B3 cb3 W) :
    (W.cell? ⟨n11, 0, none⟩ = some (.int .i64 0) ∧ W.cell? ⟨n11, 1, none⟩ = some (.int .i64 1) ∧ W.cell? ⟨n11, 2, none⟩ = some (.slice A1 1 c1) ∧ W.cell? ⟨n11, 3, none⟩ = some (.int .i64 1)) ∧
    (W.cell? ⟨n14, 0, none⟩ = some (.int .i64 0) ∧ W.cell? ⟨n14, 1, none⟩ = some (.int .i64 1) ∧ W.cell? ⟨n14, 2, none⟩ = some (.slice (some ad3) 1 c3) ∧ W.cell? ⟨n14, 3, none⟩ = some (.int .i64 1)) ∧
    W.cell? ad3 = some (.slice B3 2 cb3) ∧ ∃ S, (convert 25 9 (.slice B3 2 cb3)).run Try.prog W = .ok (.string S) W ∧ S.toList = [97, 98] :=
  ⟨cells4 h.b11, cells4 h.b14, h.x, strOfNums [97, 98], by
    have := Kd.C_string (P := Try.prog) (A := B3) (c := cb3) Try.underlying25 Try.underlying5 Try.underlying9 h.rd
    exact this, by simp [strOfNums, ByteArray.toList_eq]⟩
def Z113 : List Int := List.replicate 113 0
theorem made113 : madeCells #[.int .u8 0] 113 = u8s Z113 := by kernel_rfl
theorem make113 (W : World) : (Instr.makeSlice 25 (.int .i64 113) (.int .i64 113)).run Try.prog W = .ok (.slice (some ⟨W.heap.size, 0, none⟩) 113 113) (W.alloc (.cells (u8s Z113) 5)) := by
  rw [← made113]
  exact run_make_row' (P := Try.prog) 25 5 (.int .u8 0) 1 Try.underlying25 info5 rfl .i64 .i64 113 (by decide) (by decide) W
set_option maxHeartbeats 20000000 in
set_option maxRecDepth 100000 in
theorem sane_true (w : World) : Calls Try.prog 4 #[] w fun e w' => e = .returned (.bool true) ∧ Below w.heap.size w w' := by
  have C6 : Aside0 (∀ W g b0 b1, Disk2 W g b0 b1 → Calls Try.prog 6 #[.agg (dcells g), .int .i64 0, .int .i64 1] W fun e w' => ∃ A c, e = .returned (.tuple #[.agg (l0cells A c), .int .i64 0]) ∧ Ls w' A [] ∧ Below W.heap.size W w') := ⟨fun W g b0 b1 hd => by
    have := wOpen_any [Z, Z] (-1) 0 false 0 1 (some ⟨g, 0, none⟩) 2 W hd.ls zz_n8 (by decide) (by decide) (by decide) (by decide)
    rw [openZ] at this
    refine this.mono fun e w' h => ?_
    obtain ⟨A, c, he, _, hl', hb'⟩ := h
    exact ⟨A, c, he, hl', hb'⟩⟩
  have C60 : Aside0 (∀ W g b0 b1, Disk2 W g b0 b1 → Calls Try.prog 6 #[.agg (dcells g), .int .i64 0, .int .i64 0] W fun e w' => ∃ A c, e = .returned (.tuple #[.agg #[.int .i64 0, .int .i64 0, .slice A 0 c, .int .i64 0], .int .i64 1]) ∧ Below W.heap.size W w') := ⟨fun W g b0 b1 hd => by
    have := wOpen_any [Z, Z] (-1) 0 false 0 0 (some ⟨g, 0, none⟩) 2 W hd.ls zz_n8 (by decide) (by decide) (by decide) (by decide)
    rw [openZ0] at this
    refine this.mono fun e w' h => ?_
    obtain ⟨A, c, he, _, hl', hb'⟩ := h
    exact ⟨A, c, he, hb'⟩⟩
  have C12a : Aside0 (∀ w W n1 n3 g b0 b1 A c B cb, T3 w n1 n3 g b0 b1 A c W → Calls Try.prog 12 #[.agg (l0cells A c), .slice B 113 cb] W fun e w' => e = .returned (.tuple #[.agg #[.int .i64 0, .int .i64 0, .slice none 0 0, .int .i64 0], .int .i64 2]) ∧ T3 w n1 n3 g b0 b1 A c w' ∧ Below W.heap.size W w') := ⟨fun w W n1 n3 g b0 b1 A c B cb hT =>
    (Append113 A c B cb W hT.ls).mono fun e w' h => ⟨h.1, hT.on h.2, h.2⟩⟩
  have C12b : Aside0 (∀ w W n1 n3 g b0 b1 A, ∀ c, T3 w n1 n3 g b0 b1 A c W → Calls Try.prog 12 #[.agg (l0cells A c), .slice (some ⟨W.heap.size, 0, none⟩) 2 2] (W.alloc (.cells #[.int .u8 97, .int .u8 98] 5 (2, 3))) fun e w' => ∃ A1 c1, e = .returned (.tuple #[.agg (lcells A1 c1 0), .int .i64 0]) ∧ 1 ≤ c1 ∧ Ls w' A1 AB ∧ T3 w n1 n3 g b0 b1 A c w') := ⟨fun w W n1 n3 g b0 b1 A c hT => by
    have ha := (Below.refl W.heap.size W).alloc (Nat.le_refl _) (.cells #[.int .u8 97, .int .u8 98] 5 (2, 3))
    refine (Append2 A c ⟨W.heap.size, 0, none⟩ 2 _ (Kd.C_below hT.ls ha) (rd_new W [97, 98] (2, 3) (by decide))).mono ?_
    rintro e w' ⟨A1, c1, rfl, hc1, hl1, hb⟩
    exact ⟨A1, c1, rfl, hc1, hl1, (hT.on ha).on hb⟩⟩
  have C6D : Aside0 (∀ W A2, ∀ c2, 2 ≤ c2 → Ls W A2 [DAB, Z] → Calls Try.prog 6 #[.agg #[.slice A2 2 c2, .int .i64 (-1), .int .i64 0, .bool false], .int .i64 0, .int .i64 1] W fun e w' => ∃ A3 c3, e = .returned (.tuple #[.agg #[.int .i64 0, .int .i64 1, .slice A3 1 c3, .int .i64 1], .int .i64 0]) ∧ Ls w' A3 [[97, 98]] ∧ Below W.heap.size W w') := ⟨fun W A2 c2 hc hl => by
    have := wOpen_any [DAB, Z] (-1) 0 false 0 1 A2 c2 W hl dz_n8 hc (by decide) (by decide) (by decide)
    rw [openD] at this
    refine this.mono fun e w' h => ?_
    obtain ⟨A, c, he, _, hl', hb'⟩ := h
    exact ⟨A, c, he, hl', hb'⟩⟩
  have C9 : Aside0 (∀ W : World, Calls Try.prog 9 #[.slice (some ⟨W.heap.size, 0, none⟩) 9 9] (W.alloc (.cells #[.int .u8 49, .int .u8 50, .int .u8 51, .int .u8 52, .int .u8 53, .int .u8 54, .int .u8 55, .int .u8 56, .int .u8 57] 5 (9, 10))) fun e w' => e = .returned (.int .u32 3421780262) ∧ W.alloc (.cells #[.int .u8 49, .int .u8 50, .int .u8 51, .int .u8 52, .int .u8 53, .int .u8 54, .int .u8 55, .int .u8 56, .int .u8 57] 5 (9, 10)) = w') := ⟨fun W => by
    have := Sum_any [49, 50, 51, 52, 53, 54, 55, 56, 57] (some ⟨W.heap.size, 0, none⟩) 9 _ (rd_new W [49, 50, 51, 52, 53, 54, 55, 56, 57] (9, 10) (by decide)) (by intro x hx; simp at hx; omega) (by decide)
    rw [crc9] at this
    exact this⟩
  have C9n : Aside0 (∀ W : World, Calls Try.prog 9 #[.slice none 0 0] W fun e w' => e = .returned (.int .u32 0) ∧ W = w') := ⟨fun W => by
    have := Sum_any [] none 0 W (Kd.C_nil _ _) (by intro x hx; simp at hx) (by decide)
    rw [crc0] at this
    exact this⟩
  have mk := make113
  go_enter Try.func4, Try.ntmps4
  go_upto_region 4 with (first
    | (go_at_call 6; have hh := C60.out _ _ _ _ HT3.out.two; refine hh.mono ?_; clear hh; rintro e w3 ⟨A5, c5, rfl, hb3⟩; have hsz3 : w2.heap.size < w3.heap.size := (by have := hb3.size; simp at this; omega); have hT5 := (HT3.out.on hb3).alloc (.cells #[.int .i64 0, .int .i64 0, .slice A5 0 c5, .int .i64 0] 29); obtain ⟨y0, y1, y2, y3⟩ := cells4 hT5.disk; obtain ⟨x0, x1, x2, x3⟩ := cells4 hT5.log; have HT5 := Aside0.mk hT5; clear hT5 hb3)
    | (go_at_call 6; have hh := C6.out _ _ _ _ HD1.out.2.1; refine hh.mono ?_; clear hh; rintro e w2 ⟨A, c, rfl, hls, hb2⟩; have hT3 := T3.start (c := c) HD1.out.1 HD1.out.2.1 HD1.out.2.2 hb2 hls; obtain ⟨z0, z1, z2, z3⟩ := cells4 hT3.disk; have HT3 := Aside0.mk hT3; clear hT3 hls hb2)
    | (go_at_call 11; refine (New2 _).mono ?_; rintro e w1 ⟨v0, v1, g, rfl, hg, ⟨b0, rfl, hb0⟩, ⟨b1, rfl, hb1⟩, hbl⟩; have hd1 := d1_start hg hb0 hb1 hbl; obtain ⟨u0, u1, u2, u3⟩ := cells4 hd1.1; have HD1 := Aside0.mk hd1; clear hd1 hg hb0 hb1 hbl))
  go_cut [8] (fun v8 wx => v8 = .int .i64 2 ∧ Aside0 (T3 w w1.heap.size w2.heap.size g b0 b1 A c wx))
  case first =>
    have HT5b := Aside0.mk (T3.mk (w := w3.alloc (.cells #[.int .i64 0, .int .i64 0, .slice A5 0 c5, .int .i64 0] 29)) HT5.out.disk HT5.out.log HT5.out.two HT5.out.ls (Below.refl _ _))
    go_region_held3 (fun w' => w'.cell? ⟨w2.heap.size, 0, none⟩ = some (.int .i64 0) ∧ w'.cell? ⟨w2.heap.size, 1, none⟩ = some (.int .i64 1) ∧ w'.cell? ⟨w2.heap.size, 2, none⟩ = some (.slice A 0 c) ∧ w'.cell? ⟨w2.heap.size, 3, none⟩ = some (.int .i64 0)) (first | go_keep | exact ⟨x0, x1, x2, x3⟩ | exact ⟨x0', x1', x2', x3'⟩ | exact keep4 (set4_other (by omega) _ _ _ _) ⟨x0', x1', x2', x3'⟩) (first
      | (go_at_call 12
         refine Calls.mono (C12a.out (w3.alloc (.cells #[.int .i64 0, .int .i64 0, .slice A5 0 c5, .int .i64 0] 29)) _ w1.heap.size w2.heap.size g b0 b1 A c _ _ ?_) ?_
         · iterate 4 (first | exact HT5b.out | apply T3.alloc | apply T3.drew | skip)
         rintro e w4 ⟨rfl, hT7, hb7⟩
         have HT7 := Aside0.mk hT7
         obtain ⟨x0', x1', x2', x3'⟩ := cells4 hT7.log
         (first | (with_reducible have q1 := log_keep1 hb7; obtain ⟨⟨q10, q11, q12, q13⟩, ⟨q14, q15, q16, q17⟩⟩ := q1; try simp only [World.size_alloc] at q10 q11 q12 q13 q14 q15 q16 q17) | (with_reducible have q2 := log_keep2 hb7; obtain ⟨⟨q20, q21, q22, q23⟩, ⟨q24, q25, q26, q27⟩⟩ := q2; try simp only [World.size_alloc] at q20 q21 q22 q23 q24 q25 q26 q27) | skip)
         clear hT7 hb7))
    all_goals
      go_wp2
      go_meet
      case rel => exact ⟨rfl, ⟨HT5.out.on (by first | exact HT7.out.below.alloc HT7.out.below.size _ | exact set4_below HT7.out.below (by simp) _ _ _ _)⟩⟩
  case rest =>
    obtain ⟨rfl, HT6⟩ := hcut
    obtain ⟨z0, z1, z2, z3⟩ := cells4 (HT6.out.alloc (.cells #[.int .u8 97, .int .u8 98] 5 (2, 3))).log
    obtain ⟨k0, k1, k2, k3⟩ := cells4 HT6.out.log
    clear u0 u1 u2 u3 y0 y1 y2 y3 x0 x1 x2 x3 C12a C60 HT3 HT5 HD1 hsz3 mk
    have kc := fun (w : World) (C : Array Value) (n c : Nat) => Lib.run_convert_bytes_const (P := Try.prog) w 25 5 C n c Try.underlying25 Try.underlying5
    go_wp2_with (first
      | (go_at_call 6; have hh := C6D.out _ _ _ HL12.out.1 HL12.out.2; refine hh.mono ?_; clear hh; rintro e w7 ⟨A3, c3, rfl, hl3, hb7⟩; have hT8 := (HT12.out.on hb7).alloc (.cells #[.int .i64 0, .int .i64 1, .slice A3 1 c3, .int .i64 1] 29); obtain ⟨l0, l1, l2, l3⟩ := cells4 hT8.log; obtain ⟨ad3, B3, cb3, rfl, hf8⟩ := F9.start (c3 := c3) (HB11.out.below hb7 HB11.out.lt) hl3; have HF8 := Aside0.mk hf8; have HT8 := Aside0.mk hT8; clear hT8 hf8 hl3 hb7)
      | (go_at_call 13; have hh := Sync1 _ _ _ _ _ _ HL9.out.2.1 HL9.out.1 HT9.out.two; refine hh.mono ?_; clear hh; rintro e w6 ⟨A2, c2, rfl, hc2, hl2, hb6⟩; have hT12 := ((HT9.out.on hb6).alloc (.cells (lcells A1 c1 1) 29)).alloc (.cells #[.slice A2 2 c2, .int .i64 (-1), .int .i64 0, .bool false] 24); obtain ⟨o0, o1, o2, o3⟩ := cells4 (blk_second w6 29 24 (lcells A1 c1 1) #[.slice A2 2 c2, .int .i64 (-1), .int .i64 0, .bool false]); have HB11 := Aside0.mk ((Blk.new w6 29 (lcells A1 c1 1)).alloc (.cells #[.slice A2 2 c2, .int .i64 (-1), .int .i64 0, .bool false] 24)); have HL12 := Aside0.mk (And.intro hc2 (ls_up2 hl2 (.cells (lcells A1 c1 1) 29) (.cells #[.slice A2 2 c2, .int .i64 (-1), .int .i64 0, .bool false] 24))); have HT12 := Aside0.mk hT12; clear hT12 hc2 hl2 hb6)
      | (go_at_call 12; have hh := C12b.out _ _ _ _ _ _ _ _ _ HT6.out; refine hh.mono ?_; clear hh; rintro e w5 ⟨A1, c1, rfl, hc1, hl1, hT5⟩; have hT9 := hT5.alloc (.cells (lcells A1 c1 0) 29); obtain ⟨p0, p1, p2, p3⟩ := cells4 hT9.disk; obtain ⟨q0, q1, q2, q3⟩ := cells4 (Blk.new w5 29 (lcells A1 c1 0)); have HL9 := Aside0.mk (And.intro hc1 (And.intro (Kd.C_below hl1 ((Below.refl _ w5).alloc (Nat.le_refl _) (.cells (lcells A1 c1 0) 29))) True.intro)); have HT9 := Aside0.mk hT9; clear hT9 hT5 hl1 hc1))
    go_at_call 14
    refine (Room0 _ _ _ HT8.out.ls).mono ?_
    rintro e w8 ⟨rfl, hb8⟩
    have hF := HF8.out.on hb8
    obtain ⟨⟨m0, m1, m2, m3⟩, ⟨n0, n1, n2, n3⟩, nx, S9, hcv, hS9⟩ := hF.facts
    have HW := Aside0.mk (HT8.out.on hb8).below
    clear hb8 hF l0 l1 l2 l3 z0 z1 z2 z3 k0 k1 k2 k3 p0 p1 p2 p3 q0 q1 q2 q3 o0 o1 o2 o3 HF8 HT12 HL12 HB11 HT9 HL9 C6 C12b C6D
    go_wp2_with fail
    go_at_call 9
    refine (C9.out w8).mono ?_
    rintro e w9 ⟨rfl, rfl⟩
    clear kc C9
    go_wp2_with fail
    go_at_call 9
    refine (C9n.out _).mono ?_
    rintro e w9 ⟨rfl, rfl⟩
    clear C9n
    go_wp2
    go_ret
    exact ⟨rfl, HW.out.alloc HW.out.size _⟩
end Go.Proofs.Ytfoojamabjpdpaa.Wal
