import Derived.Test.YtfoojamabjpdpaaB7
/- Records: all records that lie on sectors. -/
namespace Go.Proofs.Ytfoojamabjpdpaa.Wal
open Go.RowKit Go.Proofs.YtfoojamabjpdpaaW.PrintWords Go.Proofs.YtfoojamabjpdpaaW.PrintLast Go.Proofs.YtfoojamabjpdpaaW.PrintMore Go.Proofs.Ytfoojamabjpdpaa.PWalOpenSpec
attribute [local go_sem] max2_int min2_int max_two min_two max_three min_three max_four min_four
set_option linter.unusedVariables false
set_option linter.unusedSimpArgs false

/-- A row of rows of bytes of the call's own. -/
def OwnL (w : World) (base : Nat) (v : Value) (L : List (List Int)) : Prop := Kd.R (Kd.slice 5 (Kd.int .u8)) 25 w base (fun _ => True) v L
theorem OwnB.R {w : World} {base : Nat} {v : Value} {l : List Int} (h : OwnB w base v l) : Kd.R (Kd.int .u8) 5 w base (fun k => base ≤ k) v l := Kd.R_of_own h (fun k hk => own_base h k hk)
theorem OwnL.empty (w : World) : OwnL (w.alloc (.cells #[] 25)) w.heap.size (.slice (some ⟨w.heap.size, 0, none⟩) 0 0) [] :=
  ⟨fun _ _ => trivial, [], ⟨rfl, .inr ⟨w.heap.size, 0, #[], rfl, Nat.le_refl _, heap_alloc_new w _, by simp, by simp [maxLen], rfl, rfl⟩⟩, Reps.none _ _⟩
theorem OwnL.ls {w : World} {base : Nat} {v : Value} {L : List (List Int)} (h : OwnL w base v L) : ∃ A c, v = .slice A L.length c ∧ L.length ≤ c ∧ Ls w A L := Kd.R_reads h
theorem OwnL.below {w w' : World} {base : Nat} {v : Value} {L : List (List Int)} (h : OwnL w base v L) (hb : Below w.heap.size w w') : OwnL w' base v L := Kd.R_below h hb

set_option maxHeartbeats 4000000 in
set_option maxRecDepth 100000 in
theorem Records_any (L : List (List Int)) (A : Option Addr) (c : Nat) (w : World) (h : Ls w A L) (hL : Secs L) (hc : L.length ≤ c) :
    Calls Try.prog 18 #[.slice A L.length c] w fun e w' => ∃ v, e = .returned v ∧ OwnL w' w.heap.size v (recS L) ∧ Below w.heap.size w w' := by
  have H := Aside0.mk h
  have HS := Aside0.mk hL
  have hlen := hL.1
  clear h hL
  go_enter Try.func18, Try.ntmps18
  go_wp2
  go_loopw [2, 3, 4, 5, 6, 7] (fun _ v3 v4 v5 _ _ wr => ∃ (f a : Nat) (last : Int) (outs : List (List Int)), v4 = .int .i64 a ∧ v5 = .int .u64 last ∧ a ≤ L.length ∧ L.length < f + a ∧ outs.length ≤ a ∧ Aside0 (recS L = outs ++ recsGo L f a last) ∧ Aside0 (OwnL wr w.heap.size v3 outs) ∧ Aside0 (Below w.heap.size w wr))
    (fun _ _ v4 _ _ _ _ => L.length - (intOf v4).toNat)
  case atStart => exact ⟨L.length + 1, 0, 0, [], rfl, rfl, by omega, by omega, by simp, ⟨rfl⟩, ⟨OwnL.empty w⟩, ⟨(Below.refl _ _).alloc (Nat.le_refl _) _⟩⟩
  case round =>
    obtain ⟨f, a, last, outs, rfl, rfl, ha, hf, ho, HR, HO, HB⟩ := hrel
    obtain ⟨f, rfl⟩ : ∃ g, f = g + 1 := ⟨f - 1, by omega⟩
    have HRw : Aside0 (Ls wr A L) := ⟨Kd.C_below H.out HB.out⟩
    have C := Aside0.mk (record_any L a A c wr HRw.out HS.out ha)
    cases hr : rec1 L a with
    | none =>
      have HE : Aside0 (recS L = outs) := ⟨by rw [HR.out, recsGo, hr, List.append_nil]⟩
      rw [hr] at C
      clear hr
      go_wp2_with (go_at_call 35; refine C.out.mono ?_; rintro e w1 ⟨rfl, hb1⟩; have HB1 := Aside0.mk hb1; clear hb1)
      go_ret
      exact ⟨u3, rfl, by rw [HE.out]; exact HO.out.below HB1.out, HB.out.trans (HB1.out.mono HB.out.size)⟩
    | some x =>
      obtain ⟨b, n⟩ := x
      have hp := rec1_pos hr
      obtain ⟨hs128, hs8⟩ := HS.out.at_ a (by omega)
      obtain ⟨ad, B, cb, e, hx, hcb, hrd⟩ := H.out.at_ a (by omega)
      cases e
      rw [hs128] at hx hcb
      obtain ⟨bd, rfl, _⟩ := hrd.at_ 10 (by omega)
      have l4 : ((gl L a).take 4).length = 4 := by rw [List.length_take]; omega
      have HX := Aside0.mk hx
      have G : Aside0 (∀ W, Below w.heap.size w W → Calls Try.prog 36 #[.slice (some bd) 4 cb] W fun e w' => e = .returned (.int .u64 (gen (gl L a))) ∧ W = w') := ⟨fun W hb => by
        have := Number_any ((gl L a).take 4) (some bd) cb W (Rd.take (Kd.C_below hrd hb) 4 (by omega)) (hs8.take 4) (by omega)
        rw [l4] at this
        exact this⟩
      have hb8 := recGo_len L HS.out a _ _ _ _ _ hr (by simp) (fun c hc => by simp at hc)
      have HLEN : Aside0 (b.length ≤ 112 * n) := ⟨hb8.1⟩
      clear hx hrd l4 hs128 hs8 hb8
      have hn0 : ((n : Int) == 0) = false := by simp; omega
      have hn0' : (n == 0) = false := by simp; omega
      have ia1 : (a : Int) < (L.length : Int) := by omega
      by_cases hl : gen (gl L a) < last
      · have HE : Aside0 (recS L = outs) := ⟨by rw [HR.out, recsGo, hr]; simp only [if_pos hl, List.append_nil]⟩
        have hl' : decide (gen (gl L a) < last) = true := decide_eq_true hl
        rw [hr] at C
        have C2 : Aside0 (Calls Try.prog 35 #[.slice (some ad) L.length c, .int .i64 a] wr fun e w1 => ∃ Ab cb2, e = .returned (.tuple #[.slice Ab b.length cb2, .int .i64 n]) ∧ OwnB w1 wr.heap.size (.slice Ab b.length cb2) b ∧ Below wr.heap.size wr w1) :=
          ⟨C.out.mono fun e w1 h => by
            obtain ⟨vb, he, hob, hb1⟩ := h
            obtain ⟨Ab, cb2, hv, _, _⟩ := hob.rd
            exact ⟨Ab, cb2, by rw [he, hv], by rw [← hv]; exact hob, hb1⟩⟩
        have HK : Aside0 (∀ k, wr.heap.size ≤ k → True ∧ some k ≠ u3.ownBlock) := ⟨fun k hk => ⟨trivial, fun e => by
          obtain ⟨inner, ho'⟩ := Kd.R_own HO.out
          have := own_lt ho' k e.symm
          omega⟩⟩
        have HL3 : Aside0 ((outs.length + 1) * 24 ≤ 140737488355328) := ⟨by omega⟩
        clear hr hl C
        go_wp2_with (first
          | (go_at_call 35; refine C2.out.mono ?_; rintro e w1 ⟨Ab, cb2, rfl, hob, hb1⟩; have HB1 := Aside0.mk hb1; have HBT := Aside0.mk (HB.out.trans (hb1.mono HB.out.size)); have hx1 := pw_cell_below HBT.out HX.out; clear hob hb1)
          | (go_at_call 36; refine (G.out _ HBT.out).mono ?_; rintro e w2 ⟨rfl, rfl⟩))
        go_ret
        exact ⟨u3, rfl, by rw [HE.out]; exact HO.out.below HB1.out, HBT.out⟩
      · have HE : Aside0 (recS L = (outs ++ [b]) ++ recsGo L f (a + n) (gen (gl L a))) := ⟨by rw [HR.out, recsGo, hr]; simp only [if_neg hl, List.append_assoc]; rfl⟩
        have hl' : decide (gen (gl L a) < last) = false := decide_eq_false hl
        rw [hr] at C
        have C2 : Aside0 (Calls Try.prog 35 #[.slice (some ad) L.length c, .int .i64 a] wr fun e w1 => ∃ Ab cb2, e = .returned (.tuple #[.slice Ab b.length cb2, .int .i64 n]) ∧ OwnB w1 wr.heap.size (.slice Ab b.length cb2) b ∧ Below wr.heap.size wr w1) :=
          ⟨C.out.mono fun e w1 h => by
            obtain ⟨vb, he, hob, hb1⟩ := h
            obtain ⟨Ab, cb2, hv, _, _⟩ := hob.rd
            exact ⟨Ab, cb2, by rw [he, hv], by rw [← hv]; exact hob, hb1⟩⟩
        have HK : Aside0 (∀ k, wr.heap.size ≤ k → True ∧ some k ≠ u3.ownBlock) := ⟨fun k hk => ⟨trivial, fun e => by
          obtain ⟨inner, ho'⟩ := Kd.R_own HO.out
          have := own_lt ho' k e.symm
          omega⟩⟩
        have HL3 : Aside0 ((outs.length + 1) * 24 ≤ 140737488355328) := ⟨by omega⟩
        clear hr hl C
        go_wp2_with (first
          | (go_at_call 35; refine C2.out.mono ?_; rintro e w1 ⟨Ab, cb2, rfl, hob, hb1⟩; have HB1 := Aside0.mk hb1; have HOB := Aside0.mk hob; have HBT := Aside0.mk (HB.out.trans (hb1.mono HB.out.size)); have hx1 := pw_cell_below HBT.out HX.out; clear hob hb1)
          | (go_at_call 36; refine (G.out _ HBT.out).mono ?_; rintro e w2 ⟨rfl, rfl⟩)
          | (at_builtin
             refine Kd.R_append (Kd.slice 5 (Kd.int .u8)) (w0 := w) (W := w1) w.heap.size rfl (.tmp 34) (.tmp 36) 22 25 (.slice none 0 0) 24 rfl Try.underlying22 info25 rfl (by decide) (by decide) u3 outs b [.slice Ab b.length cb2] (fun _ => True) (fun k => wr.heap.size ≤ k) rfl rfl ⟨_, rfl, Kd.R_lower HOB.out.R HB.out.size⟩ HK.out (fun _ _ => trivial) (HO.out.below HB1.out) HBT.out HBT.out.size HL3.out ?_
             intro v1 w3 ho3 hb3 hg3 hat3))
        go_roundw
        case rel => exact ⟨f, a + n, gen (gl L a), outs ++ [b], by go_num, rfl, by omega, by omega, by rw [List.length_append, List.length_singleton]; omega, HE, ⟨ho3⟩, ⟨hb3⟩⟩
        case measure => simp [intOf]; omega
end Go.Proofs.Ytfoojamabjpdpaa.Wal
