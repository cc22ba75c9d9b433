import Derived.LoopN
import Derived.Lib.Bytealg
import Derived.Test.YtfoojamabjpdpaaGreatDoorPLedgerBeforeSpecx0
/- Closed runs: a loop is unrolled; names. -/
namespace Go.Proofs.YtfoojamabjpdpaaGreatDoor.Led
open Go.RowKit Go.Proofs.YtfoojamabjpdpaaGreatDoorW.PrintWords Go.Proofs.YtfoojamabjpdpaaGreatDoorW.PrintLast Go.Proofs.YtfoojamabjpdpaaGreatDoorW.PrintMore
attribute [local go_sem] max2_int min2_int max_two min_two max_three min_three max_four min_four
set_option linter.unusedVariables false
set_option linter.unusedSimpArgs false
theorem rounds_intro {P : Program} {c : Code} {Q : Exit → Act → World → Prop} {n : Nat} {a : Act} {w : World} (h : c.wp P (Exit.then (Code.rounds P c Q n) Q) a w) : Code.rounds P c Q (n + 1) a w := h
/-- An append whose run is known. -/
theorem wpList_append_run {P : Program} {W W' : World} {ops : Array Oper} {rest : List Oper} {o : Oper} {a : Act} {Q : Exit → Act → World → Prop} (hgd : o.guard = none) (s x : Operand) (t ty : TypeId)
    (ho : o.op = .call { callee := .builtin .append, args := #[s, x], argTypes := #[t, t] }) (hty : o.type = ty) (v y v' : Value) (hs : a.eval s = v) (hx : a.eval x = y)
    (hrun : (Builtin.append_ #[t, t] ty #[v, y]).run P W = .ok v' W') (h : wpList P ops Q rest (a.put o.dst v') W') : wpList P ops Q (o :: rest) a W :=
  wpList_plain hgd fun _ hK => by
    subst hty
    unfold Oper.wp execOp
    simp only [ho, resolve, invoke, builtin, Sem.run_bind, Sem.run_pure, Result.andThen_ok, List.map_toArray, List.map_cons, List.map_nil, hs, hx, hrun]
    exact hK _ _ h

/-- A block that is known whole. -/
def Blk (w : World) (g : Nat) (t : TypeId) (cs : Array Value) : Prop := w.heap[g]? = some (.cells cs t (0, 0))
/-- An append to nil. -/
theorem append_nil {W : World} {t e : TypeId} {z : Value} {size bytes : Nat} (ht : Tryz.prog.underlying t = some (.slice e)) (hinfo : (Tryz.prog.info? e).map (fun i => (i.zero, i.size, i.bytes)) = some (some z, size, bytes)) (hzs : z.cells.size = size) (hsz : 0 < size) (ad : Addr) (m c : Nat) (news : List Value) (hm : 0 < m)
    (hl : news.length = m * size) (hcells : ∀ j u, news[j]? = some u → W.cell? (ad.add j) = some u) (h1 : ∀ u ∈ news, u.oneCell' = true) (h63 : m ≤ maxLen) (hbytes : m * bytes ≤ 140737488355328) :
    ∃ g cap cur W', (Builtin.append_ #[t, t] t #[.slice none 0 0, .slice (some ad) m c]).run Tryz.prog W = .ok (.slice (some ⟨g, 0, none⟩) m cap) W' ∧ Blk W' g e cur ∧ cur.toList.take (m * size) = news ∧ m ≤ cap ∧ W.heap.size ≤ g ∧ Below W.heap.size W W' := by
  obtain ⟨i, hi, hzz⟩ := Option.map_eq_some_iff.1 hinfo
  simp only [Prod.mk.injEq] at hzz
  obtain ⟨hz0, hz1, hz2⟩ := hzz
  obtain ⟨v', W', hrun, h2, h3, _, _⟩ := run_append_own_at (P := Tryz.prog) W W.heap.size t t e i z size bytes ht hi hz0 hz1 hz2 hzs hsz (.slice none 0 0) 0 [] (World.ownsRow_nil W _ e size) ad m c news hl hcells h1 (by omega) (by rw [Nat.zero_add]; exact hbytes) (Nat.le_refl _)
  rw [Nat.zero_add] at h2
  rcases h2.2 with ⟨_, hn⟩ | ⟨g, cap, cur, rfl, hle, hg, hnc, hcm, hsz', htk⟩
  · omega
  · exact ⟨g, cap, cur, W', hrun, hg, by rw [htk, List.nil_append], hnc, hle, (Below.refl W.heap.size W).grown h3 (Nat.le_refl _) (fun j e => by cases e)⟩
theorem ba_get (l : Array UInt8) (i : Nat) (h : i < (ByteArray.mk l).size) : (ByteArray.mk l)[i]'h = l[i]'h := rfl
theorem ba_size (l : Array UInt8) : (ByteArray.mk l).size = l.size := rfl
attribute [local go_sem] ba_get ba_size List.getElem_toArray List.getElem_cons_zero List.getElem_cons_succ List.size_toArray List.length_cons List.length_nil rounds_succ
theorem or97 : Go.bits .or .u8 97 32 = 97 := by kernel_rfl
theorem or110 : Go.bits .or .u8 110 32 = 110 := by kernel_rfl
theorem or65 : Go.bits .or .u8 65 32 = 97 := by kernel_rfl
attribute [local go_sem] or97 or110 or65
set_option maxRecDepth 100000 in
theorem inner_ann (w : World) : Calls Tryz.prog 73 #[.string ⟨#[97, 110, 110]⟩] w fun e w' => e = .returned (.bool true) ∧ w = w' := by
  go_enter Tryz.func73, Tryz.ntmps73
  go_wp2_with fail
  refine wp_loop_rounds 5 (rounds_intro ?_)
  go_wp2_with go_in
  iterate 3
    refine rounds_intro ?_
    go_wp2_with go_in
  go_ret
  exact ⟨rfl, rfl⟩
theorem ext136 (s : ByteArray) (c : Int) (w : World) : (callFunc 136 #[.string s, .int .u8 c]).run Tryz.prog w = .ok (.value (.int .i64 (Lib.indexByte s.data.toList c.toNat.toUInt8))) w := by
  rw [run_callFunc_extern Tryz.func136 (by kernel_rfl) (by kernel_rfl) (by kernel_rfl) (e := Extern.BytealgIndexByte.indexByte) (by kernel_rfl), Lib.run_indexByteString]
  rfl
theorem ib_ann : Lib.indexByte (ByteArray.data ⟨#[97, 110, 110]⟩).toList (58 : Int).toNat.toUInt8 = -1 := by kernel_rfl
theorem ib_A : Lib.indexByte (ByteArray.data ⟨#[65]⟩).toList (58 : Int).toNat.toUInt8 = -1 := by kernel_rfl
theorem ib_nil : Lib.indexByte (ByteArray.data ⟨#[]⟩).toList (58 : Int).toNat.toUInt8 = -1 := by kernel_rfl
set_option maxRecDepth 100000 in
theorem isWord_ann (w : World) : Calls Tryz.prog 103 #[.string ⟨#[97, 110, 110]⟩] w fun e w' => e = .returned (.bool true) ∧ w = w' := by
  go_enter Tryz.func103, Tryz.ntmps103
  go_wp2_with (first | (go_at_call 73; refine (inner_ann _).mono ?_; rintro e w' ⟨rfl, rfl⟩) | go_in)
  go_ret
  exact ⟨rfl, rfl⟩
set_option maxRecDepth 100000 in
theorem idx105 (S : ByteArray) (hx : ∀ w, (callFunc 136 #[.string S, .int .u8 58]).run Tryz.prog w = .ok (.value (.int .i64 (-1))) w) (w : World) : Calls Tryz.prog 105 #[.string S, .int .u8 58] w fun e w' => e = .returned (.int .i64 (-1)) ∧ w = w' := by
  go_enter Tryz.func105, Tryz.ntmps105
  go_wp2
  go_ret
  exact ⟨rfl, rfl⟩
set_option maxRecDepth 100000 in
theorem idx154 (S : ByteArray) (hne : ([58] == S.toList) = false) (hx : ∀ w, (callFunc 136 #[.string S, .int .u8 58]).run Tryz.prog w = .ok (.value (.int .i64 (-1))) w) (w : World) : Calls Tryz.prog 154 #[.string S, .string ⟨#[58]⟩] w fun e w' => e = .returned (.int .i64 (-1)) ∧ w = w' := by
  go_enter Tryz.func154, Tryz.ntmps154
  go_wp2_with (go_at_call 105; refine (idx105 S hx _).mono ?_; rintro e w' ⟨rfl, rfl⟩)
  go_ret
  exact ⟨rfl, rfl⟩
set_option maxRecDepth 100000 in
theorem scut (S : ByteArray) (hne : ([58] == S.toList) = false) (hx : ∀ w, (callFunc 136 #[.string S, .int .u8 58]).run Tryz.prog w = .ok (.value (.int .i64 (-1))) w) (w : World) : Calls Tryz.prog 134 #[.string S, .string ⟨#[58]⟩] w fun e w' => e = .returned (.tuple #[.string S, .string ⟨#[]⟩, .bool false]) ∧ w = w' := by
  go_enter Tryz.func134, Tryz.ntmps134
  go_wp2_with (go_at_call 154; refine (idx154 S hne hx _).mono ?_; rintro e w' ⟨rfl, rfl⟩)
  go_ret3
  exact ⟨rfl, rfl⟩
set_option maxRecDepth 100000 in
theorem cut_none (S : ByteArray) (hne : ([58] == S.toList) = false) (hx : ∀ w, (callFunc 136 #[.string S, .int .u8 58]).run Tryz.prog w = .ok (.value (.int .i64 (-1))) w) (w : World) : Calls Tryz.prog 102 #[.string S, .string ⟨#[58]⟩] w fun e w' => e = .returned (.tuple #[.string S, .string ⟨#[]⟩, .bool false]) ∧ w = w' := by
  go_enter Tryz.func102, Tryz.ntmps102
  go_wp2_with (go_at_call 134; refine (scut S hne hx _).mono ?_; rintro e w' ⟨rfl, rfl⟩)
  go_ret3
  exact ⟨rfl, rfl⟩
set_option maxRecDepth 100000 in
theorem person_ann (w : World) : Calls Tryz.prog 30 #[.string ⟨#[97, 110, 110]⟩] w fun e w' => e = .returned (.int .i64 0) ∧ w = w' := by
  have hx := ext136 ⟨#[97, 110, 110]⟩ 58
  rw [ib_ann] at hx
  go_enter Tryz.func30, Tryz.ntmps30
  go_wp2_with (first | (go_at_call 102; refine (cut_none _ (by simp [ByteArray.toList_eq]) hx _).mono ?_; rintro e w' ⟨rfl, rfl⟩) | (go_at_call 103; refine (isWord_ann _).mono ?_; rintro e w' ⟨rfl, rfl⟩) | go_in)
  go_ret
  exact ⟨rfl, rfl⟩
set_option maxRecDepth 100000 in
theorem person_nil (w : World) : Calls Tryz.prog 30 #[.string ⟨#[]⟩] w fun e w' => e = .returned (.int .i64 20) ∧ w = w' := by
  have hx := ext136 ⟨#[]⟩ 58
  rw [ib_nil] at hx
  go_enter Tryz.func30, Tryz.ntmps30
  go_wp2_with (first | (go_at_call 102; refine (cut_none _ (by simp [ByteArray.toList_eq]) hx _).mono ?_; rintro e w' ⟨rfl, rfl⟩) | go_in)
  go_ret
  exact ⟨rfl, rfl⟩
set_option maxRecDepth 100000 in
theorem person_A (w : World) : Calls Tryz.prog 30 #[.string ⟨#[65]⟩] w fun e w' => e = .returned (.int .i64 0) ∧ w = w' := by
  have hx := ext136 ⟨#[65]⟩ 58
  rw [ib_A] at hx
  go_enter Tryz.func30, Tryz.ntmps30
  go_wp2_with (first | (go_at_call 102; refine (cut_none _ (by simp [ByteArray.toList_eq]) hx _).mono ?_; rintro e w' ⟨rfl, rfl⟩) | go_in)
  refine wp_loop_rounds 5 (rounds_intro ?_)
  go_wp2_with go_in
  refine rounds_intro ?_
  go_wp2_with go_in
  go_ret
  exact ⟨rfl, rfl⟩
set_option maxRecDepth 100000 in
theorem colon_ann (w : World) : Calls Tryz.prog 31 #[.string ⟨#[97, 110, 110]⟩, .int .i32 58] w fun e w' => e = .returned (.bool false) ∧ w = w' := by
  have hx := ext136 ⟨#[97, 110, 110]⟩ 58
  rw [ib_ann] at hx
  go_enter Tryz.func31, Tryz.ntmps31
  go_wp2_with go_in
  go_ret
  exact ⟨rfl, rfl⟩
set_option maxRecDepth 100000 in
theorem isReader_ann (w : World) : Calls Tryz.prog 18 #[.string ⟨#[97, 110, 110]⟩] w fun e w' => e = .returned (.bool true) ∧ w = w' := by
  go_enter Tryz.func18, Tryz.ntmps18
  go_wp2_with (first | (go_at_call 30; refine (person_ann _).mono ?_; rintro e w' ⟨rfl, rfl⟩) | (go_at_call 31; with_reducible refine (colon_ann _).mono ?_; rintro e w' ⟨rfl, rfl⟩) | go_in)
  go_ret
  exact ⟨rfl, rfl⟩
set_option maxRecDepth 100000 in
theorem isReader_nil (w : World) : Calls Tryz.prog 18 #[.string ⟨#[]⟩] w fun e w' => e = .returned (.bool false) ∧ w = w' := by
  go_enter Tryz.func18, Tryz.ntmps18
  go_wp2_with (first | (go_at_call 30; refine (person_nil _).mono ?_; rintro e w' ⟨rfl, rfl⟩))
  go_ret
  exact ⟨rfl, rfl⟩
end Go.Proofs.YtfoojamabjpdpaaGreatDoor.Led
