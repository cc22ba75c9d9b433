import Derived.Test.YtfoojamabjpdpaaB5
import Derived.Test.YtfoojamabjpdpaaS3
/- record: the record that begins at a sector. -/
namespace Go.Proofs.Ytfoojamabjpdpaa.Wal
open Go.RowKit Go.Proofs.YtfoojamabjpdpaaW.PrintWords Go.Proofs.YtfoojamabjpdpaaW.PrintLast Go.Proofs.YtfoojamabjpdpaaW.PrintMore Go.Proofs.Ytfoojamabjpdpaa.PWalOpenSpec
attribute [local go_sem] max2_int min2_int max_two min_two max_three min_three max_four min_four
set_option linter.unusedVariables false
set_option linter.unusedSimpArgs false

/-- An append whose run is known. -/
theorem wpList_append_run {P : Program} {W W' : World} {ops : Array Oper} {rest : List Oper} {o : Oper} {a : Act} {Q : Exit → Act → World → Prop} (hgd : o.guard = none) (s x : Operand) (t ty : TypeId)
    (ho : o.op = .call { callee := .builtin .append, args := #[s, x], argTypes := #[t, t] }) (hty : o.type = ty) (v y v' : Value) (hs : a.eval s = v) (hx : a.eval x = y)
    (hrun : (Builtin.append_ #[t, t] ty #[v, y]).run P W = .ok v' W') (h : wpList P ops Q rest (a.put o.dst v') W') : wpList P ops Q (o :: rest) a W :=
  wpList_plain hgd fun _ hK => by
    subst hty
    unfold Oper.wp execOp
    simp only [ho, resolve, invoke, builtin, Sem.run_bind, Sem.run_pure, Result.andThen_ok, List.map_toArray, List.map_cons, List.map_nil, hs, hx, hrun]
    exact hK _ _ h

/-- A row of bytes of the call's own. -/
def OwnB (w : World) (base : Nat) (v : Value) (l : List Int) : Prop := w.ownsRow base 5 1 v l.length (l.map (Value.int .u8))

theorem append_u8 {W : World} {base : Nat} {v : Value} {out b : List Int} {A : Option Addr} {c : Nat} (hown : OwnB W base v out) (hR : Rd W A b) (hbase : base ≤ W.heap.size) (hl : out.length + b.length ≤ 140737488351232) :
    ∃ v' W', (Builtin.append_ #[25, 25] 25 #[v, .slice A b.length c]).run Try.prog W = .ok v' W' ∧ OwnB W' base v' (out ++ b) ∧ W.grownBy W' v.ownBlock ∧ (v'.ownBlock = v.ownBlock ∨ v'.ownBlock = some W.heap.size) := by
  obtain ⟨i, hi, hzz⟩ := Option.map_eq_some_iff.1 info5
  simp only [Prod.mk.injEq] at hzz
  obtain ⟨hz0, hz1, hz2⟩ := hzz
  rcases A with _ | ad
  · have h0 : b.length = 0 := by
      rcases Nat.eq_zero_or_pos b.length with h0 | h0
      · exact h0
      · obtain ⟨ad, e, _⟩ := hR.cells h0
        cases e
    obtain rfl : b = [] := List.eq_nil_of_length_eq_zero h0
    refine ⟨v, W, ?_, by simpa using hown, World.grownBy.refl W _, .inl rfl⟩
    rcases hown.2 with ⟨rfl, hn⟩ | ⟨g, cap, cur, rfl, _, _, hnc, _⟩
    · simp [Builtin.append_, run_underlying Try.underlying25, sizeOf, typeInfo, hi, Builtin.lenOf, Builtin.firstCells]
    · simp [Builtin.append_, run_underlying Try.underlying25, sizeOf, typeInfo, hi, Builtin.lenOf, Builtin.firstCells, hnc, storeCells]
  · have hc : ∀ j v, (b.map (Value.int .u8))[j]? = some v → W.cell? (ad.add j) = some v := by
      rcases Nat.eq_zero_or_pos b.length with h0 | h0
      · obtain rfl : b = [] := List.eq_nil_of_length_eq_zero h0
        intro j v hv
        simp at hv
      · obtain ⟨ad', e, hc⟩ := hR.cells h0
        cases e
        exact hc
    obtain ⟨v', W', hrun, h2, h3, _, h5⟩ := run_append_own_at (P := Try.prog) W base 25 25 5 i (.int .u8 0) 1 1 Try.underlying25 hi hz0 hz1 hz2 rfl (by omega) v out.length (out.map (Value.int .u8)) hown ad b.length c (b.map (Value.int .u8)) (by simp) hc
      (by intro u hu; obtain ⟨x, _, rfl⟩ := List.mem_map.1 hu; rfl) (by simp only [maxLen]; omega) (by omega) hbase
    exact ⟨v', W', hrun, by rw [OwnB, List.length_append, List.map_append]; exact h2, h3, h5⟩

theorem OwnB.below {w w' : World} {base : Nat} {v : Value} {l : List Int} (h : OwnB w base v l) (hb : Below w.heap.size w w') : OwnB w' base v l := own_move h (fun k hk => hb.block k (own_lt h k hk))
theorem OwnB.rd {w : World} {base : Nat} {v : Value} {l : List Int} (h : OwnB w base v l) : ∃ A c, v = .slice A l.length c ∧ l.length ≤ c ∧ Rd w A l := by
  rcases h.2 with ⟨rfl, hn⟩ | ⟨g, cap, cur, rfl, _, hg, hnc, hcm, hsz, htk⟩
  · obtain rfl : l = [] := List.eq_nil_of_length_eq_zero hn
    exact ⟨none, 0, rfl, by simp, Kd.C_nil _ _⟩
  · refine ⟨some ⟨g, 0, none⟩, cap, rfl, hnc, Rd.of (fun k hk => ?_) (by simp only [maxLen] at hcm; omega)⟩
    rw [show (⟨g, 0, none⟩ : Addr).add k = ⟨g, k, none⟩ by unfold Addr.add; split <;> simp_all, cell_of_row w g k cur 5 (0, 0) hg]
    have h1 : (cur.toList.take (l.length * 1))[k]? = (l.map (Value.int .u8))[k]? := by rw [htk]
    rw [List.getElem?_take_of_lt (by omega), List.getElem?_map] at h1
    rw [← Array.getElem?_toList, h1, List.getElem?_eq_getElem hk, gd, List.getD_eq_getElem?_getD, List.getElem?_eq_getElem hk]
    rfl
end Go.Proofs.Ytfoojamabjpdpaa.Wal
