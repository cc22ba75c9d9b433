import Derived.WideMake
import Derived.RangeFuncRecord
import Derived.Test.YtfoojamabjpdpaaGreatDoorF
/- Closed runs: a map of one text. -/
namespace Go.Proofs.YtfoojamabjpdpaaGreatDoor.Led
open Go.RowKit
set_option linter.unusedVariables false
set_option linter.unusedSimpArgs false
theorem zero9 (w : World) : (zeroValue 9).run Tryz.prog w = .ok (.string ⟨#[]⟩) w := by kernel_rfl
theorem look_empty (W : World) (b n : Nat) (S : ByteArray) (hb : W.heap[b]? = some (.map #[] n)) : (Instr.lookup 107 (.map (some b)) (.string S) true).run Tryz.prog W = .ok (.tuple #[.string ⟨#[]⟩, .bool false]) W := by
  have hc : (Instr.checkKey true 10000 9 (.string S)).run Tryz.prog W = .ok () W := MapKept.run_checkKey (k := .string S) Tryz.underlying9 (by simp [MapKept.IsKey]) true 9999
  have hf : Instr.findNow .string (.string S) ([] : List MapEntry) 0 = some none := rfl
  simp [Instr.lookup, run_underlying Tryz.underlying107, MapKept.run_getObj_map hb, hc, MapKept.run_findKey Tryz.underlying9 hf, zero9, Result.andThen]
theorem look_one (W : World) (b n m : Nat) (S s : ByteArray) (v : Value) (hit : Bool) (hs : Instr.findNow .string (.string S) [{ key := .string s, val := v, born := m }] 0 = some (if hit then some (0, v) else none)) (hb : W.heap[b]? = some (.map #[{ key := .string s, val := v, born := m }] n)) :
    (Instr.lookup 107 (.map (some b)) (.string S) true).run Tryz.prog W = .ok (.tuple #[if hit then v else .string ⟨#[]⟩, .bool hit]) W := by
  have hc : (Instr.checkKey false 10000 9 (.string S)).run Tryz.prog W = .ok () W := MapKept.run_checkKey (k := .string S) Tryz.underlying9 (by simp [MapKept.IsKey]) false 9999
  cases hit
  · simp only [Bool.false_eq_true, if_false] at hs
    simp [Instr.lookup, run_underlying Tryz.underlying107, MapKept.run_getObj_map hb, hc, MapKept.run_findKey Tryz.underlying9 hs, zero9, Result.andThen]
  · simp only [if_true] at hs
    simp [Instr.lookup, run_underlying Tryz.underlying107, MapKept.run_getObj_map hb, hc, MapKept.run_findKey Tryz.underlying9 hs, Result.andThen]
theorem del_one (W : World) (b n m : Nat) (s : ByteArray) (v : Value) (ty : TypeId) (hs : Instr.findNow .string (.string s) [{ key := .string s, val := v, born := m }] 0 = some (some (0, v))) (hb : W.heap[b]? = some (.map #[{ key := .string s, val := v, born := m }] n)) :
    (Builtin.delete_ #[107, 9] ty #[.map (some b), .string s]).run Tryz.prog W = .ok (.tuple #[]) (W.putObj b (.map #[] n)) := by
  have hc : (Instr.checkKey false 10000 9 (.string s)).run Tryz.prog W = .ok () W := MapKept.run_checkKey (k := .string s) Tryz.underlying9 (by simp [MapKept.IsKey]) false 9999
  simp [Builtin.delete_, run_underlying Tryz.underlying107, MapKept.run_getObj_map hb, hc, MapKept.run_findKey Tryz.underlying9 hs, MapKept.run_setObj_map _ hb, Result.andThen, Array.eraseIdxIfInBounds]
  rfl
theorem upd_first (W : World) (b n : Nat) (s : ByteArray) (v : Value) (hb : W.heap[b]? = some (.map #[] n)) :
    (Instr.mapUpdate 107 (.map (some b)) (.string s) v).run Tryz.prog W = .ok () (W.putObj b (.map #[{ key := .string s, val := v, born := n }] (n + 1))) :=
  run_mapUpdate_first W 107 9 9 b n s v Tryz.underlying107 Tryz.underlying9 hb
end Go.Proofs.YtfoojamabjpdpaaGreatDoor.Led
