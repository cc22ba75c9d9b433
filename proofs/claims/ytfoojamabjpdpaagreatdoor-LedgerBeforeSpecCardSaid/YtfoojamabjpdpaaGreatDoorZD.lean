import Derived.Test.YtfoojamabjpdpaaGreatDoorRows
import Derived.Test.YtfoojamabjpdpaaGreatDoorB
import Derived.ProofKit
import Derived.LaidMore
import Derived.LaidLaws
import Derived.LaidHandle
import Derived.OpenShut
import Derived.MakeChecks
import Derived.Stop.Joined
/- What the row's listed variables say to the walk: the kinds' rules. -/
namespace Go.Proofs.YtfoojamabjpdpaaGreatDoor.Led
open Go.ChangeShapes Go.WideShapes Go.ChangeAt Go.RowKit
set_option linter.unusedVariables false
set_option maxRecDepth 100000
theorem gRules : Tryz.prog.globalNamed "veilstone/query.rules" = some 2 := by kernel_rfl
theorem tRules : (Tryz.prog.globals[2]?).map (·.type) = some 162 := by kernel_rfl
theorem rules_of_laid {W : World} (h : laidMetH Tryz.prog Rows.ledgerBeforeSpecRow.laid W) : Rules W := by
  rw [MakeChecks.laidMetH_plain _ _ _ (by kernel_rfl)] at h
  obtain ⟨_, h, -, -⟩ := h
  obtain ⟨_, _, _, _, _, _, -, -, -, -, h, -⟩ := h
  obtain ⟨_, _, _, _, _, _, -, -, -, -, h, -⟩ := h
  obtain ⟨_, _, _, _, _, _, -, -, -, -, h, -⟩ := h
  obtain ⟨_, _, _, _, _, _, -, -, -, -, h, -⟩ := h
  obtain ⟨_, _, _, _, _, _, -, -, -, -, h, -⟩ := h
  obtain ⟨g, t, cs, f, p, q, hg, ht, hv, hd, -, -⟩ := h
  obtain rfl := Option.some.inj (gRules.symm.trans hg)
  obtain rfl := Option.some.inj (tRules.symm.trans ht)
  have c161 : Tryz.prog.cellsOf 161 = 3 := by kernel_rfl
  have c4 : Tryz.prog.cellsOf 4 = 1 := by kernel_rfl
  have c162 : Tryz.prog.cellsOf 162 = 12 := by kernel_rfl
  obtain ⟨xs, m, -, hx, hlen, hn, hel⟩ := DataW.trod_array Tryz.underlying162 hd
  have h1 := hel 1 (by decide)
  have hcell : ∀ j, W.cell? ⟨2, j, none⟩ = cs.toList[j]? := fun j => (World.var?_cell gRules hv j).trans (by simp)
  generalize cs.toList = l at *
  rw [c162] at hlen
  rw [c161] at h1
  match l, hlen with
  | [a0, a1, a2, a3, a4, a5, a6, a7, a8, a9, a10, a11], _ =>
    match xs, hn with
    | [x0, x1, x2, x3], _ =>
      have h1' : DataW.trod (fun _ => ()) Tryz.prog W 0 (fun _ => true) false m 161 [a3, a4, a5] = some x1 := h1
      simp only [Prod.mk.injEq, Rows.laid_veilstone_query_rules, DataW.agg.injEq, List.map_cons, List.map_nil, List.cons.injEq, and_true] at hx
      obtain ⟨⟨-, e1, -, -⟩, -⟩ := hx
      obtain ⟨ys, n, -, hy, -, hyl, hf⟩ := DataW.trod_struct Tryz.underlying161 h1'
      match ys, hyl with
      | [y0, y1, y2], _ =>
        have f0 : DataW.trod (fun _ => ()) Tryz.prog W 0 (fun _ => true) false n 4 (([a3, a4, a5].drop 0).take (Tryz.prog.cellsOf 4)) = some y0 := hf 0 _ rfl
        have f1 : DataW.trod (fun _ => ()) Tryz.prog W 0 (fun _ => true) false n 4 (([a3, a4, a5].drop 1).take (Tryz.prog.cellsOf 4)) = some y1 := hf 1 _ rfl
        have f2 : DataW.trod (fun _ => ()) Tryz.prog W 0 (fun _ => true) false n 4 (([a3, a4, a5].drop 2).take (Tryz.prog.cellsOf 4)) = some y2 := hf 2 _ rfl
        rw [c4] at f0 f1 f2
        obtain ⟨b0, q0, rfl⟩ := DataW.trod_bool Tryz.underlying4 f0
        obtain ⟨b1, q1, rfl⟩ := DataW.trod_bool Tryz.underlying4 f1
        obtain ⟨b2, q2, rfl⟩ := DataW.trod_bool Tryz.underlying4 f2
        rw [hy] at e1
        simp only [DataW.agg.injEq, List.map_cons, List.map_nil, List.cons.injEq, and_true, DataW.lit.injEq, Lit.bool.injEq] at e1
        obtain ⟨rfl, rfl, rfl⟩ := e1
        simp only [List.drop_succ_cons, List.drop_zero, List.take_succ_cons, List.take_zero, List.cons.injEq, and_true] at q0 q1 q2
        subst q0 q1 q2
        exact ⟨(hcell 3).trans rfl, (hcell 4).trans rfl, (hcell 5).trans rfl⟩
end Go.Proofs.YtfoojamabjpdpaaGreatDoor.Led
