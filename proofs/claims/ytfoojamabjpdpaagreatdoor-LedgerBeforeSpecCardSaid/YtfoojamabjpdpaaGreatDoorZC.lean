import Derived.Test.YtfoojamabjpdpaaGreatDoorPLedgerBeforeSpecx0
import Derived.ProofKit
import Derived.Lib.SmallJoins
import Derived.Deep.Slices
import Derived.Deep.Fields
import Derived.ChangeSame
/- The law's arguments, opened: what is read of a ledger is of the printed kind. -/
namespace Go.Proofs.YtfoojamabjpdpaaGreatDoor.Led
open Go.ChangeShapes Go.WideShapes Go.ChangeAt Go.RowKit Go.Joins Go.Deep Go.Proofs.YtfoojamabjpdpaaGreatDoorW.PrintWords Go.Proofs.YtfoojamabjpdpaaGreatDoorW.PrintLast Go.Proofs.YtfoojamabjpdpaaGreatDoorW.PrintMore Go.Proofs.YtfoojamabjpdpaaGreatDoor.PLedgerBeforeSpec
set_option linter.unusedVariables false
set_option maxRecDepth 100000
/-- What the reading of a type says is said by the kind. -/
def Opens {α : Type} (d : Kd α) (t : TypeId) : Prop :=
  ∀ (H : Type) (enc : TypeId × Value → H) (w : World) (base : Nat) (spare : Nat → Bool) (held : Bool) (fuel : Nat) (cs : List Value) (x : DataW H × List MemPlace), DataW.trod enc Tryz.prog w base spare held fuel t cs = some x → ∃ v, d.K w v cs
theorem opens_int {t : TypeId} {k : IntKind} (ht : Tryz.prog.underlying t = some (.int k)) : Opens (Kd.int k) t := by
  intro H enc w base spare held fuel cs x h
  obtain ⟨n, rfl, -, -⟩ := DataW.trod_int ht h
  exact ⟨n, rfl⟩
theorem opens_string {t : TypeId} (ht : Tryz.prog.underlying t = some .string) : Opens Kd.string t := by
  intro H enc w base spare held fuel cs x h
  obtain ⟨s, rfl, -, -⟩ := DataW.trod_string ht h
  exact ⟨s, rfl⟩
theorem list_of {α : Type} {P : Nat → α → Prop} : ∀ n, (∀ i, i < n → ∃ v, P i v) → ∃ l : List α, l.length = n ∧ ∀ j v, l[j]? = some v → P j v
  | 0, _ => ⟨[], rfl, fun j v h => by simp at h⟩
  | n + 1, h => by
    obtain ⟨l, hl, hp⟩ := list_of n fun i hi => h i (by omega)
    obtain ⟨v, hv⟩ := h n (by omega)
    refine ⟨l ++ [v], by simp [hl], fun j u hu => ?_⟩
    by_cases hj : j < l.length
    · rw [List.getElem?_append_left hj] at hu
      exact hp j u hu
    · rw [List.getElem?_append_right (by omega)] at hu
      have hj2 : j - l.length = 0 := by
        have := (List.getElem?_eq_some_iff.1 hu).1
        simp at this
        omega
      rw [hj2] at hu
      have e : v = u := by simpa using hu
      have hjn : j = n := by omega
      rw [hjn, ← e]
      exact hv
theorem opens_slice {α : Type} {d : Kd α} {t e : TypeId} (he : Opens d e) (ht : Tryz.prog.underlying t = some (.slice e)) (hs : Tryz.prog.cellsOf e = d.sz) : Opens (Kd.slice e d) t := by
  intro H enc w base spare held fuel cs x h
  rcases open_slice ht h with ⟨rfl, -⟩ | ⟨a, len, cap, m, n, D, Pl, rfl, hb, hl, hm, hmm, hx, hi⟩
  · exact ⟨[], none, 0, rfl, Nat.le_refl _, Kd.C_nil _ _⟩
  · have hlm : len ≤ m := by rw [hmm]; split <;> omega
    obtain ⟨l, hll, hk⟩ := list_of (P := fun i v => ∃ cs', cs'.length = d.sz ∧ d.K w v cs' ∧ ∀ j u, cs'[j]? = some u → w.cell? (a.add (i * d.sz + j)) = some u) len (by
      intro i hil
      obtain ⟨cs', hc, ht'⟩ := hi i (by omega)
      obtain ⟨v, hv⟩ := he _ _ _ _ _ _ _ _ _ ht'
      rw [hs] at hc
      obtain ⟨_, hcl, hat⟩ := World.cells?_some hc
      refine ⟨v, cs', hcl, hv, fun j u hu => ?_⟩
      have hj : j < d.sz := by rw [← hcl]; exact (List.getElem?_eq_some_iff.1 hu).1
      rw [← Go.Deep.add_add, hat j hj, hu])
    subst hll
    have hmax : maxLen = 9223372036854775807 := rfl
    exact ⟨l, some a, cap, rfl, hl, rfl, by omega, fun _ => ⟨a, rfl, hk⟩⟩
theorem opens32 : Opens k32 32 := by
  intro H enc w base spare held fuel cs x h
  obtain ⟨xs, n, -, -, hcl, hxl, hf⟩ := DataW.trod_struct Tryz.underlying32 h
  have hc6 : cs.length = 6 := hcl.trans (by kernel_rfl)
  match cs, hc6 with
  | [c0, c1, c2, c3, c4, c5], _ =>
    have xl : xs.length = 6 := hxl
    have g : ∀ i, i < 6 → ∃ y, xs[i]? = some y := fun i hi => ⟨_, List.getElem?_eq_getElem (by omega)⟩
    obtain ⟨y0, e0⟩ := g 0 (by omega)
    obtain ⟨y1, e1⟩ := g 1 (by omega)
    obtain ⟨y2, e2⟩ := g 2 (by omega)
    obtain ⟨y3, e3⟩ := g 3 (by omega)
    obtain ⟨y4, e4⟩ := g 4 (by omega)
    obtain ⟨y5, e5⟩ := g 5 (by omega)
    have c3e : Tryz.prog.cellsOf 3 = 1 := by kernel_rfl
    have c9e : Tryz.prog.cellsOf 9 = 1 := by kernel_rfl
    have f0 : DataW.trod enc Tryz.prog w base spare held n 3 (([c0, c1, c2, c3, c4, c5].drop 0).take (Tryz.prog.cellsOf 3)) = some y0 := (hf 0 _ rfl).trans e0
    have f1 : DataW.trod enc Tryz.prog w base spare held n 9 (([c0, c1, c2, c3, c4, c5].drop 1).take (Tryz.prog.cellsOf 9)) = some y1 := (hf 1 _ rfl).trans e1
    have f2 : DataW.trod enc Tryz.prog w base spare held n 9 (([c0, c1, c2, c3, c4, c5].drop 2).take (Tryz.prog.cellsOf 9)) = some y2 := (hf 2 _ rfl).trans e2
    have f3 : DataW.trod enc Tryz.prog w base spare held n 9 (([c0, c1, c2, c3, c4, c5].drop 3).take (Tryz.prog.cellsOf 9)) = some y3 := (hf 3 _ rfl).trans e3
    have f4 : DataW.trod enc Tryz.prog w base spare held n 3 (([c0, c1, c2, c3, c4, c5].drop 4).take (Tryz.prog.cellsOf 3)) = some y4 := (hf 4 _ rfl).trans e4
    have f5 : DataW.trod enc Tryz.prog w base spare held n 3 (([c0, c1, c2, c3, c4, c5].drop 5).take (Tryz.prog.cellsOf 3)) = some y5 := (hf 5 _ rfl).trans e5
    simp only [c3e, c9e, List.drop_succ_cons, List.drop_zero, List.take_succ_cons, List.take_zero] at f0 f1 f2 f3 f4 f5
    obtain ⟨a0, q0, -, -⟩ := DataW.trod_int Tryz.underlying3 f0
    obtain ⟨a1, q1, -, -⟩ := DataW.trod_string Tryz.underlying9 f1
    obtain ⟨a2, q2, -, -⟩ := DataW.trod_string Tryz.underlying9 f2
    obtain ⟨a3, q3, -, -⟩ := DataW.trod_string Tryz.underlying9 f3
    obtain ⟨a4, q4, -, -⟩ := DataW.trod_int Tryz.underlying3 f4
    obtain ⟨a5, q5, -, -⟩ := DataW.trod_int Tryz.underlying3 f5
    simp only [List.cons.injEq, and_true] at q0 q1 q2 q3 q4 q5
    subst q0 q1 q2 q3 q4 q5
    exact ⟨⟨a0, a1, a2, a3, a4, a5⟩, k32_mk w ⟨a0, a1, a2, a3, a4, a5⟩⟩
theorem opens35 : Opens k35 35 := by
  intro H enc w base spare held fuel cs x h
  obtain ⟨xs, n, -, -, hcl, hxl, hf⟩ := DataW.trod_struct Tryz.underlying35 h
  have hc : cs.length = 1 := hcl.trans (by kernel_rfl)
  match cs, hc with
  | [c0], _ =>
    have xl : xs.length = 1 := hxl
    obtain ⟨y0, e0⟩ : ∃ y, xs[0]? = some y := ⟨_, List.getElem?_eq_getElem (by omega)⟩
    have f0 : DataW.trod enc Tryz.prog w base spare held n 33 (([c0].drop 0).take (Tryz.prog.cellsOf 33)) = some y0 := (hf 0 _ rfl).trans e0
    have c33 : Tryz.prog.cellsOf 33 = 1 := by kernel_rfl
    simp only [c33, List.drop_zero, List.take_succ_cons, List.take_zero] at f0
    obtain ⟨l, hl⟩ := opens_slice opens32 Tryz.underlying33 (by kernel_rfl) _ _ _ _ _ _ _ _ _ f0
    exact ⟨⟨l⟩, hl⟩
theorem opens39 : Opens k39 39 := by
  intro H enc w base spare held fuel cs x h
  obtain ⟨xs, n, -, -, hcl, hxl, hf⟩ := DataW.trod_struct Tryz.underlying39 h
  have hc : cs.length = 2 := hcl.trans (by kernel_rfl)
  match cs, hc with
  | [c0, c1], _ =>
    have xl : xs.length = 2 := hxl
    obtain ⟨y0, e0⟩ : ∃ y, xs[0]? = some y := ⟨_, List.getElem?_eq_getElem (by omega)⟩
    obtain ⟨y1, e1⟩ : ∃ y, xs[1]? = some y := ⟨_, List.getElem?_eq_getElem (by omega)⟩
    have f0 : DataW.trod enc Tryz.prog w base spare held n 3 (([c0, c1].drop 0).take (Tryz.prog.cellsOf 3)) = some y0 := (hf 0 _ rfl).trans e0
    have f1 : DataW.trod enc Tryz.prog w base spare held n 35 (([c0, c1].drop 1).take (Tryz.prog.cellsOf 35)) = some y1 := (hf 1 _ rfl).trans e1
    have c3e : Tryz.prog.cellsOf 3 = 1 := by kernel_rfl
    have c35 : Tryz.prog.cellsOf 35 = 1 := by kernel_rfl
    simp only [c3e, c35, List.drop_succ_cons, List.drop_zero, List.take_succ_cons, List.take_zero] at f0 f1
    obtain ⟨a0, q0, -, -⟩ := DataW.trod_int Tryz.underlying3 f0
    simp only [List.cons.injEq, and_true] at q0
    subst q0
    obtain ⟨p, hp⟩ := opens35 _ _ _ _ _ _ _ _ _ f1
    exact ⟨⟨a0, p⟩, [.int .i64 a0], [c1], rfl, rfl, hp⟩
/-- A ledger that is an argument. -/
theorem open_led {H : Type} {enc : TypeId × Value → H} {w : World} {base b0 : Nat} {spare : Nat → Bool} {held : Bool} {r : Reach} {v : Value} {d : DataW H} {p : List MemPlace} (hv : Value.okWide Tryz.prog w r b0 24 v) (h : DataW.Trod enc Tryz.prog w base spare held 24 v d p) :
    ∃ (a : ByteArray) (n : Int) (A : Option Addr) (c : Nat) (l : List S39), v = .agg #[.string a, .int .i64 n, .slice A l.length c] ∧ Kd.C k39 w A l.length l ∧ l.length ≤ c := by
  obtain ⟨x0, x1, x2, y0, y1, y2, n, rfl, -, -, t0, t1, t2⟩ := open_agg3 Tryz.underlying24 (by kernel_rfl) (by kernel_rfl) hv h
  obtain ⟨a, e0, -, -⟩ := DataW.trod_string Tryz.underlying9 t0
  obtain ⟨k, e1, -, -⟩ := DataW.trod_int Tryz.underlying3 t1
  obtain ⟨l, A, c, e2, hl, hc⟩ := opens_slice opens39 Tryz.underlying22 (by kernel_rfl) _ _ _ _ _ _ _ _ _ t2
  simp only [List.cons.injEq, and_true] at e0 e1 e2
  subst e0 e1 e2
  exact ⟨a, k, A, c, l, rfl, hc, hl⟩
theorem led_bounds {w : World} {A : Option Addr} {l : List S39} (h : Kd.C k39 w A l.length l) : l.length < 2 ^ 63 ∧ ∀ e ∈ l, e.f1.f0.length < 2 ^ 63 := by
  refine ⟨by have := Kd.C_max h; omega, fun e he => ?_⟩
  obtain ⟨j, hj, rfl⟩ := List.getElem_of_mem he
  obtain ⟨ad, -, hc⟩ := h.2.2 (by omega)
  obtain ⟨c, -, hK, -⟩ := hc j _ (List.getElem?_eq_getElem hj)
  obtain ⟨A1, c1, -, -, hC⟩ := k39_open hK
  have := Kd.C_max hC
  omega
end Go.Proofs.YtfoojamabjpdpaaGreatDoor.Led
