/- Open and Sum of package wal match the specification: for every disk, part of it and byte string WalOpenSpec returns true. No condition. -/
import Derived.Test.YtfoojamabjpdpaaRows
import Derived.Test.YtfoojamabjpdpaaE2
import Derived.WalkKit
import Derived.ProofKit
import Derived.OpenShut
import Derived.ShutString
import Derived.ChangeOld
import Derived.Below
import Derived.SizedLaws
import Derived.Lib.SmallJoins
import Derived.Deep.Matrix
import Derived.Test.YtfoojamabjpdpaaWSized
namespace Go.Proofs.Ytfoojamabjpdpaa.walOpenSpec
open Go.ChangeShapes Go.WideShapes Go.ChangeAt Go.RowKit Go.Joins Go.Deep
open Go.Proofs.YtfoojamabjpdpaaW.PrintWords
open Go.ChangeMaps (open_string shut_string)
set_option linter.unusedVariables false
theorem own : ownKnob Try.prog.godebug = none := by kernel_rfl
theorem laidOut : laidOutB Try.prog = true := by kernel_rfl
theorem bounds_i64 {n : Int} (h : (Lit.int .i64 n).wf = true) : -9223372036854775808 ≤ n ∧ n ≤ 9223372036854775807 := by
  simp [Lit.wf, IntKind.min, IntKind.max, IntKind.signed, IntKind.bits] at h
  omega
set_option maxRecDepth 100000 in
theorem lifted (os : Os) (started : os.Started) (H : Type) (enc : TypeId × Value → H) :
    ReturnsInHanded {} Try.checked os 3 .any (Rows.walOpenSpecSpec.pre6 enc Try.prog Try.f3 Rows.walOpenSpecRow.domain false) (Rows.walOpenSpecSpec.post enc Try.prog Try.f3 false true false false) := by
  refine returnsInHanded_of_change_sized (C := Try.checked) own started (by kernel_rfl) Try.func3
    (ChangeSpec.witness6 (enc := enc) (C := Try.checked) false ⟨#[], #[.agg #[.slice none 0 0, .int .i64 0, .int .i64 0, .bool false], .int .i64 0, .int .i64 0, .slice none 0 0], []⟩ 8 (by kernel_rfl) (by kernel_rfl) (by kernel_rfl) (by kernel_rfl)) ?_
  intro W base args ds gs before hval0 hW hcnd hsz0 _
  have hsz : (DataW.weightsEach Try.prog (Try.f3.params.toList ++ Rows.walOpenSpecSpec.plain.varTypes Try.prog) (ds ++ gs)).all (· ≤ reachBytes) = true := hsz0
  have hval : ∀ (j : Nat) t v, Try.f3.params[j]? = some t → args[j]? = some v → Value.okWide Try.prog W .any base t v := hval0
  have hW' := hW
  obtain ⟨p, q, hA0, hV, rfl, hfz, hnd⟩ := hW
  have hA : DataW.TrodAll enc Try.prog W 0 (fun _ => true) true Try.f3.params.toList args.toList ds p := hA0
  rw [Try.params3] at hA hval hsz
  obtain ⟨v0, vs0, d0, ds0, p0, q0, hargs, rfl, rfl, h0, r0⟩ := trodAll_cons hA
  obtain ⟨v1, vs1, d1, ds1, p1, q1, rfl, rfl, rfl, h1, r1⟩ := trodAll_cons r0
  obtain ⟨v2, vs2, d2, ds2, p2, q2, rfl, rfl, rfl, h2, r2⟩ := trodAll_cons r1
  obtain ⟨v3, vs3, d3, ds3, p3, q3, rfl, rfl, rfl, h3, r3⟩ := trodAll_cons r2
  obtain ⟨rfl, rfl, rfl⟩ := trodAll_nil r3
  obtain rfl : args = #[v0, v1, v2, v3] := by cases args; simp_all
  obtain ⟨rfl, rfl⟩ := trodVars_none hV
  have k0 := h0
  have lt0 : ∀ x ∈ p0, x.block < W.heap.size := by obtain ⟨m, hm⟩ := k0; exact DataW.trod_lt m _ _ _ hm
  obtain ⟨L, A0, c0, left, tear, st, rfl, hL, hN, hc⟩ : ∃ (L : List (List Int)) (A0 : Option Addr) (c0 : Nat) (left tear : Int) (st : Bool), v0 = .agg #[.slice A0 L.length c0, .int .i64 left, .int .i64 tear, .bool st] ∧ Wal.Ls W A0 L ∧ (∀ s ∈ L, Wal.N8 s) ∧ L.length ≤ c0 := by
    obtain ⟨x0, x1, x2, x3, y0, y1, y2, y3, n, rfl, -, -, t0, t1, t2, t3⟩ := open_agg4 Try.underlying24 (by kernel_rfl) (by kernel_rfl) (hval 0 24 v0 rfl rfl) h0
    obtain ⟨left, e1, -, -⟩ := DataW.trod_int Try.underlying3 t1
    obtain ⟨tear, e2, -, -⟩ := DataW.trod_int Try.underlying3 t2
    obtain ⟨st, e3, -⟩ := DataW.trod_bool Try.underlying4 t3
    simp at e1 e2 e3
    subst e1 e2 e3
    rcases open_int_rows Try.underlying22 Try.underlying25 Try.underlying5 (by kernel_rfl) (by kernel_rfl) t0 with ⟨hcs, -⟩ | ⟨a, len, cap, A, N, C, Z, hcs, -, hl, hm, -, hall⟩
    · simp at hcs
      subst hcs
      exact ⟨[], none, 0, left, tear, st, rfl, Kd.C_nil _ _, by simp, Nat.le_refl _⟩
    · simp at hcs
      subst hcs
      obtain ⟨g1, g2⟩ := Wal.ls_of_rows hl hm hall
      refine ⟨_, some a, cap, left, tear, st, ?_, g1, g2, ?_⟩
      · rw [List.length_map, List.length_range]
      · rw [List.length_map, List.length_range]; exact hl
  obtain ⟨a1, rfl, rfl, rfl, w1⟩ := open_int Try.underlying3 (hval 1 3 v1 rfl rfl) h1
  obtain ⟨a2, rfl, rfl, rfl, w2⟩ := open_int Try.underlying3 (hval 2 3 v2 rfl rfl) h2
  obtain ⟨A3, len3, cap3, rfl⟩ := okWide_slice Try.underlying25 (hval 3 25 v3 rfl rfl)
  have k3 := h3
  have lt3 : ∀ x ∈ p3, x.block < W.heap.size := by obtain ⟨m, hm⟩ := k3; exact DataW.trod_lt m _ _ _ hm
  have y3 : len3 * 1 ≤ 140737488351232 := sized_ints hsz (j := 3) (t := 25) rfl rfl Try.underlying25 Try.underlying5 (by kernel_rfl) (by kernel_rfl) h3
  obtain ⟨b, rfl, hrb, hnb, hcb⟩ : ∃ b : List Int, len3 = b.length ∧ Wal.Rd W A3 b ∧ Wal.N8 b ∧ b.length ≤ cap3 := by
    obtain ⟨fuel, hf⟩ := h3
    rcases open_ints Try.underlying25 Try.underlying5 (by kernel_rfl) hf with ⟨hcs, _⟩ | ⟨x, l, c, zs, hcs, _, hl, hm, hz, _, hcell, hwz⟩
    · simp [Value.cells] at hcs
      obtain ⟨rfl, rfl, rfl⟩ := hcs
      exact ⟨[], rfl, Kd.C_nil _ _, by intro x hx; simp at hx, Nat.le_refl _⟩
    · simp [Value.cells] at hcs
      obtain ⟨rfl, rfl, rfl⟩ := hcs
      simp only [if_true] at hz
      have hlen : (zs.take len3).length = len3 := by rw [List.length_take]; omega
      refine ⟨zs.take len3, hlen.symm, Wal.Rd.of (fun j hj => ?_) (by rw [hlen]; omega), fun x hx => bounds_u8 (hwz x (List.mem_of_mem_take hx)), by rw [hlen]; exact hl⟩
      rw [hlen] at hj
      rw [hcell j (by omega), Wal.gd_take _ _ _ hj]
      rfl
  clear hA0 hval0 hsz0 hsz
  refine (Wal.law_true L left tear st a1 a2 b A0 A3 c0 cap3 W hL hN hc hrb hnb hcb (by omega) (bounds_i64 w1) (bounds_i64 w2)).mono fun e W' ⟨he, bel⟩ => ?_
  subst he
  exact ⟨_, rfl, _, _, _, [], _, [], hW', trodAll_mk1 (shut_bool Try.underlying4 _), (trodAll_cons_mk (Below.trod laidOut (by kernel_rfl) (of_decide_eq_true (by kernel_rfl)) k0 bel lt0) (trodAll_cons_mk (shut_int Try.underlying3 w1) (trodAll_cons_mk (shut_int Try.underlying3 w2) (trodAll_cons_mk (Below.trod laidOut (by kernel_rfl) (of_decide_eq_true (by kernel_rfl)) k3 bel lt3) trodAll_mk0)))), rfl, bel.frame _, fun h => by cases h⟩
theorem over : Rows.walOpenSpecRow.holds Try.pinned (OpenSpec.ofChange Rows.walOpenSpecSpec) :=
  OpenClaim.holds_of_wide 3 Try.f3 rfl rfl rfl rfl rfl rfl rfl ⟨rfl, rfl, rfl, rfl, rfl⟩ rfl rfl rfl rfl rfl (by kernel_rfl) Try.func3 (by kernel_rfl)
    (of_decide_eq_true (by kernel_rfl)) (by unfold Func.isWrapper; first | (rw [if_pos (by decide +kernel)]; kernel_rfl) | (rw [if_neg (by decide +kernel)]; exact ⟨rfl, rfl⟩))
    (fun os started H enc _ => lifted os started H enc)
theorem proved : Rows.WalOpenSpecSaid := over
#print axioms proved
end Go.Proofs.Ytfoojamabjpdpaa.walOpenSpec
namespace Go.Proofs.Ytfoojamabjpdpaa
/-- The row, under a short name, for the claim. -/
theorem walOpenSpec_holds : Rows.WalOpenSpecSaid := walOpenSpec.proved
end Go.Proofs.Ytfoojamabjpdpaa
