import Derived.Test.YtfoojamabjpdpaaB6
/- record: the record that begins at a sector. -/
namespace Go.Proofs.Ytfoojamabjpdpaa.Wal
open Go.RowKit Go.Proofs.YtfoojamabjpdpaaW.PrintWords Go.Proofs.YtfoojamabjpdpaaW.PrintLast Go.Proofs.YtfoojamabjpdpaaW.PrintMore Go.Proofs.Ytfoojamabjpdpaa.PWalOpenSpec
attribute [local go_sem] max2_int min2_int max_two min_two max_three min_three max_four min_four
set_option linter.unusedVariables false
set_option linter.unusedSimpArgs false

/-- What record hands back. -/
def RecPost (o : Option (List Int × Nat)) (w : World) (e : Ending) (w' : World) : Prop :=
  match o with
  | none => e = .returned (.tuple #[.slice none 0 0, .int .i64 0]) ∧ Below w.heap.size w w'
  | some (b, n) => ∃ v, e = .returned (.tuple #[v, .int .i64 n]) ∧ OwnB w' w.heap.size v b ∧ Below w.heap.size w w'
theorem RecPost.no {o : Option (List Int × Nat)} {w w' : World} {e : Ending} (h : o = none) (he : e = .returned (.tuple #[.slice none 0 0, .int .i64 0])) (hb : Below w.heap.size w w') : RecPost o w e w' := by
  subst h; exact ⟨he, hb⟩
theorem RecPost.yes {o : Option (List Int × Nat)} {w w' : World} {e : Ending} {b : List Int} {n : Nat} {v : Value} (h : o = some (b, n)) (he : e = .returned (.tuple #[v, .int .i64 n])) (ho : OwnB w' w.heap.size v b) (hb : Below w.heap.size w w') : RecPost o w e w' := by
  subst h; exact ⟨v, he, ho, hb⟩
theorem own_empty (w : World) : OwnB (w.alloc (.cells #[] 5)) w.heap.size (.slice (some ⟨w.heap.size, 0, none⟩) 0 0) [] :=
  ⟨rfl, .inr ⟨w.heap.size, 0, #[], rfl, Nat.le_refl _, heap_alloc_new w _, by simp, by simp [maxLen], rfl, rfl⟩⟩
theorem quiet_drawn {P : Program} {f : FuncId} {args : Array Value} {w : World} {n : Nat} {v : Value}
    (h : Calls P f args (w.drewN n) fun e w' => e = .returned v ∧ Drawn0 (w.drewN n) w') : Calls P f args (w.drewN n) fun e w'' => e = .returned v ∧ ∃ m, w'' = w.drewN m :=
  h.mono fun _ _ ⟨he, ⟨m, hm⟩⟩ => ⟨he, n + m, by rw [hm, World.drewN_drewN]⟩

set_option maxHeartbeats 4000000 in
set_option maxRecDepth 100000 in
theorem record_any (L : List (List Int)) (a : Nat) (A : Option Addr) (c : Nat) (w : World) (h : Ls w A L) (hL : Secs L) (ha : a ≤ L.length) :
    Calls Try.prog 35 #[.slice A L.length c, .int .i64 a] w (RecPost (rec1 L a) w) := by
  have H := Aside0.mk h
  have HS := Aside0.mk hL
  have hlen := hL.1
  clear h hL
  go_enter Try.func35, Try.ntmps35
  go_wp2
  go_loopw [4, 5, 6, 7, 8] (fun _ _ v6 v7 _ wr => ∃ (n : Nat) (out : List Int), v7 = .int .i64 n ∧ a + n ≤ L.length ∧ Aside0 (rec1 L a = recGo L a (L.length + 1 - n) n out) ∧ Aside0 (OwnB wr w.heap.size v6 out) ∧ Aside0 (Below w.heap.size w wr) ∧ Aside0 (out.length ≤ 112 * n))
    (fun _ _ _ v7 _ _ => L.length - (intOf v7).toNat)
  case atStart => exact ⟨0, [], rfl, by omega, ⟨rfl⟩, ⟨own_empty w⟩, ⟨(Below.refl _ _).alloc (Nat.le_refl _) _⟩, ⟨by simp⟩⟩
  case round =>
    obtain ⟨n, out, rfl, hn, HR, HO, HB, HN⟩ := hrel
    by_cases hlt : a + n < L.length
    case neg =>
      have HE : Aside0 (rec1 L a = none) := ⟨by rw [HR.out, show L.length + 1 - n = (L.length - n) + 1 by omega, recGo, if_neg hlt]⟩
      go_wp2
      go_ret2
      exact RecPost.no HE.out rfl HB.out
    have HRw : Aside0 (Ls wr A L) := ⟨Kd.C_below H.out HB.out⟩
    obtain ⟨hs128, hs8⟩ := HS.out.at_ (a + n) hlt
    obtain ⟨hs0128, hs08⟩ := HS.out.at_ a (by omega)
    obtain ⟨ad, B, cb, e, hx', hcb, hrd'⟩ := H.out.at_ (a + n) hlt
    obtain ⟨ad', B0, cb0, e', hx0', hcb0, hrd0'⟩ := H.out.at_ a (by omega)
    cases e
    cases e'
    have hx := pw_cell_below HB.out hx'
    have hx0 := pw_cell_below HB.out hx0'
    have hrd : Rd wr B (gl L (a + n)) := Kd.C_below hrd' HB.out
    have hrd0 : Rd wr B0 (gl L a) := Kd.C_below hrd0' HB.out
    clear hx' hx0' hrd0'
    rw [hs128] at hx hcb
    rw [hs0128] at hx0 hcb0
    obtain ⟨bd, rfl, c10⟩ := hrd.at_ 10 (by omega)
    obtain ⟨bd', e', c11⟩ := hrd.at_ 11 (by omega)
    cases e'
    obtain ⟨bd', e', c10w⟩ := hrd'.at_ 10 (by omega)
    cases e'
    replace c10w : w.cell? ⟨bd.block, bd.off + 10, none⟩ = _ := c10w
    have C10W := Aside0.mk c10w
    clear c10w hrd'
    obtain ⟨bd0, rfl, _⟩ := hrd0.at_ 10 (by omega)
    replace c10 : wr.cell? ⟨bd.block, bd.off + 10, none⟩ = _ := c10
    replace c11 : wr.cell? ⟨bd.block, bd.off + 11, none⟩ = _ := c11
    have HE0 : Aside0 (rec1 L a = if okAt L a n = true then (if 2 ≤ gd (gl L (a + n)) 10 then some (out ++ piece (gl L (a + n)), n + 1) else recGo L a (L.length + 1 - (n + 1)) (n + 1) (out ++ piece (gl L (a + n)))) else none) := ⟨by
      rw [HR.out, show L.length + 1 - n = (L.length - n) + 1 by omega, recGo, if_pos hlt, show L.length + 1 - (n + 1) = L.length - n by omega]⟩
    have hok : okAt L a n = (goodS (gl L (a + n)) ((a : Int) + (n : Int)) && (decide (gd (gl L (a + n)) 10 % 2 = 1) == decide (n = 0)) && (decide (n = 0) || decide (gen (gl L (a + n)) = gen (gl L a)))) := by rw [okAt, Int.natCast_add]
    have HOK := Aside0.mk hok
    have G : Aside0 (∀ m, Calls Try.prog 42 #[.slice (some bd) 128 cb, .int .i64 ((a : Int) + (n : Int))] (wr.drewN m) fun e w' => e = .returned (.bool (goodS (gl L (a + n)) ((a : Int) + (n : Int)))) ∧ Drawn0 (wr.drewN m) w') :=
      ⟨fun m => Good_any (gl L (a + n)) _ (some bd) cb (wr.drewN m) hrd hs8 hs128 hcb (by omega)⟩
    have l4 : ((gl L (a + n)).take 4).length = 4 := by rw [List.length_take]; omega
    have l40 : ((gl L a).take 4).length = 4 := by rw [List.length_take]; omega
    have C1 : Aside0 (∀ m, Calls Try.prog 36 #[.slice (some bd) 4 cb] (wr.drewN m) fun e w' => e = .returned (.int .u64 (gen (gl L (a + n)))) ∧ wr.drewN m = w') := ⟨fun m => by
      have := Number_any ((gl L (a + n)).take 4) (some bd) cb (wr.drewN m) (hrd.take 4 (by omega)) (hs8.take 4) (by omega)
      rw [l4] at this
      exact this⟩
    have C2 : Aside0 (∀ m, Calls Try.prog 36 #[.slice (some bd0) 4 cb0] (wr.drewN m) fun e w' => e = .returned (.int .u64 (gen (gl L a))) ∧ wr.drewN m = w') := ⟨fun m => by
      have := Number_any ((gl L a).take 4) (some bd0) cb0 (wr.drewN m) (hrd0.take 4 (by omega)) (hs08.take 4) (by omega)
      rw [l40] at this
      exact this⟩
    have h10 := hs8.gd 10
    have h11 := hs8.gd 11
    have HPIECE : Aside0 (goodS (gl L (a + n)) ((a : Int) + (n : Int)) = true → gd (gl L (a + n)) 11 ≤ 112) := ⟨fun hg => (good_ln hg).1⟩
    have HRD := Aside0.mk hrd
    have HS8 := Aside0.mk hs8
    have HS128 := Aside0.mk hs128
    clear hok l4 l40 hrd hrd0 hs8 hs08 hs128 hs0128
    by_cases g1 : goodS (gl L (a + n)) ((a : Int) + (n : Int)) = true
    case neg =>
      have g1' : goodS (gl L (a + n)) ((a : Int) + (n : Int)) = false := by simpa using g1
      have HE : Aside0 (rec1 L a = none) := ⟨by rw [HE0.out, HOK.out, g1']; simp⟩
      have G' := G.out
      rw [g1'] at G'
      replace G := Aside0.mk G'
      clear G' g1 g1'
      have ia1 : (a : Int) < (L.length : Int) := by omega
      have ia0 : (0 : Int) ≤ (a : Int) := by omega
      have hwan : IntKind.i64.wrap ((a : Int) + (n : Int)) = (a : Int) + (n : Int) := IntWalk.i64_in _ (by omega)
      go_wp2
      go_quiet ((first | (go_at_call 42; exact quiet_drawn (G.out _)) | (go_at_call 36; first | (with_reducible exact quiet_left (C1.out _)) | (with_reducible exact quiet_left (C2.out _)))))
      clear hwan ia1 ia0
      go_wp2
      go_ret2
      exact RecPost.no HE.out rfl (by have := HB.out; exact ⟨this.os, this.tape, this.output, this.size, this.block⟩)
    have G' := G.out
    rw [g1] at G'
    replace G := Aside0.mk G'
    clear G'
    have t11 := HPIECE.out g1
    by_cases g2 : (decide (gd (gl L (a + n)) 10 % 2 = 1) == decide (n = 0)) = true
    case neg =>
      have HE : Aside0 (rec1 L a = none) := ⟨by rw [HE0.out, HOK.out, g1, show (decide (gd (gl L (a + n)) 10 % 2 = 1) == decide (n = 0)) = false by simpa using g2]; simp⟩
      generalize gd (gl L (a + n)) 10 = x at *
      by_cases hn0 : n = 0
      · have b1 : (x % 2 == 1) = false := by simpa [hn0] using g2
        have b1t : (Int.tmod (x) 2 == 1) = false := by rw [Int.tmod_eq_emod_of_nonneg (by omega)]; exact b1
        have b2 : ((n : Int) == 0) = true := by simp [hn0]
        clear g1 g2 hn0
        have ia1 : (a : Int) < (L.length : Int) := by omega
        have ia0 : (0 : Int) ≤ (a : Int) := by omega
        have hwan : IntKind.i64.wrap ((a : Int) + (n : Int)) = (a : Int) + (n : Int) := IntWalk.i64_in _ (by omega)
        go_wp2
        go_quiet ((first | (go_at_call 42; exact quiet_drawn (G.out _)) | (go_at_call 36; first | (with_reducible exact quiet_left (C1.out _)) | (with_reducible exact quiet_left (C2.out _)))))
        clear hwan ia1 ia0
        go_wp2
        go_ret2
        exact RecPost.no HE.out rfl (by have := HB.out; exact ⟨this.os, this.tape, this.output, this.size, this.block⟩)
      · have b1 : (x % 2 == 1) = true := by simpa [hn0] using g2
        have b1t : (Int.tmod (x) 2 == 1) = true := by rw [Int.tmod_eq_emod_of_nonneg (by omega)]; exact b1
        have b2 : ((n : Int) == 0) = false := by simp; omega
        clear g1 g2 hn0
        have ia1 : (a : Int) < (L.length : Int) := by omega
        have ia0 : (0 : Int) ≤ (a : Int) := by omega
        have hwan : IntKind.i64.wrap ((a : Int) + (n : Int)) = (a : Int) + (n : Int) := IntWalk.i64_in _ (by omega)
        go_wp2
        go_quiet ((first | (go_at_call 42; exact quiet_drawn (G.out _)) | (go_at_call 36; first | (with_reducible exact quiet_left (C1.out _)) | (with_reducible exact quiet_left (C2.out _)))))
        clear hwan ia1 ia0
        go_wp2
        go_ret2
        exact RecPost.no HE.out rfl (by have := HB.out; exact ⟨this.os, this.tape, this.output, this.size, this.block⟩)
    by_cases g3 : (decide (n = 0) || decide (gen (gl L (a + n)) = gen (gl L a))) = true
    case neg =>
      have g3' : (decide (n = 0) || decide (gen (gl L (a + n)) = gen (gl L a))) = false := by simpa using g3
      have HE : Aside0 (rec1 L a = none) := ⟨by rw [HE0.out, HOK.out, g3']; simp⟩
      simp only [Bool.or_eq_false_iff, decide_eq_false_iff_not] at g3'
      generalize gd (gl L (a + n)) 10 = x at *
      have b1 : (x % 2 == 1) = false := by simpa [g3'.1] using g2
      have b1t : (Int.tmod (x) 2 == 1) = false := by rw [Int.tmod_eq_emod_of_nonneg (by omega)]; exact b1
      have b2 : ((n : Int) == 0) = false := by simp; omega
      have b3 : decide (0 < n) = true := by simp; omega
      have b4 : (gen (gl L (a + n)) != gen (gl L a)) = true := by simpa using g3'.2
      generalize gen (gl L (a + n)) = y1 at *
      generalize gen (gl L a) = y2 at *
      clear g1 g2 g3 g3'
      have ia1 : (a : Int) < (L.length : Int) := by omega
      have ia0 : (0 : Int) ≤ (a : Int) := by omega
      have hwan : IntKind.i64.wrap ((a : Int) + (n : Int)) = (a : Int) + (n : Int) := IntWalk.i64_in _ (by omega)
      go_wp2
      go_quiet ((first | (go_at_call 42; exact quiet_drawn (G.out _)) | (go_at_call 36; first | (with_reducible exact quiet_left (C1.out _)) | (with_reducible exact quiet_left (C2.out _)))))
      clear hwan ia1 ia0
      go_wp2
      go_ret2
      exact RecPost.no HE.out rfl (by have := HB.out; exact ⟨this.os, this.tape, this.output, this.size, this.block⟩)
    have HOK2 : Aside0 (okAt L a n = true) := ⟨by rw [HOK.out, g1, g2, g3]; rfl⟩
    obtain ⟨m, hm⟩ : ∃ m : Nat, gd (gl L (a + n)) 11 = m := ⟨(gd (gl L (a + n)) 11).toNat, by omega⟩
    rw [hm] at c11 t11
    have hlp : (piece (gl L (a + n))).length = m := by rw [piece_len _ HS128.out (by omega), hm]; rfl
    have hpiece : piece (gl L (a + n)) = ((gl L (a + n)).take (12 + m)).drop 12 := by rw [piece, hm]; rfl
    have hsl : ∀ W : World, (Instr.slice 25 (.slice (some bd) 128 cb) (some (.int .i64 12)) (some (.int .i64 (12 + (m : Int)))) none).run Try.prog W = .ok (.slice (some (bd.add 12)) m (cb - 12)) W := fun W => by
      have := slice_run (P := Try.prog) 25 5 Try.underlying25 (by kernel_rfl) (some bd) 128 cb 12 (12 + m) (by omega) (by omega) hcb W
      rw [if_neg (by omega), show ((12 + m : Nat) : Int) = 12 + (m : Int) by omega, show 12 + m - 12 = m by omega] at this
      exact this
    have AP : ∀ k : Nat, ∃ v' W', (Builtin.append_ #[25, 25] 25 #[u6, .slice (some (bd.add 12)) m (cb - 12)]).run Try.prog (wr.drewN k) = .ok v' W' ∧ (OwnB W' w.heap.size v' (out ++ piece (gl L (a + n))) ∧ (out ++ piece (gl L (a + n))).length ≤ 112 * (n + 1) ∧ Below w.heap.size w W') := fun k => by
      have hq := append_u8 (W := wr.drewN k) (c := cb - 12) (b := piece (gl L (a + n))) (A := some (bd.add 12)) HO.out (by rw [hpiece]; exact HRD.out.part 12 (12 + m) (by have := HS128.out; omega)) HB.out.size (by have := HN.out; rw [hlp]; omega)
      obtain ⟨v', W', h1, h2, h3, h4⟩ := hq
      rw [hlp] at h1
      refine ⟨v', W', h1, h2, by rw [List.length_append, hlp]; have := HN.out; omega, ?_⟩
      have hb' : Below w.heap.size w (wr.drewN k) := ⟨HB.out.os, HB.out.tape, HB.out.output, HB.out.size, HB.out.block⟩
      exact hb'.grown h3 hb'.size (fun j e => own_base HO.out j e)
    obtain ⟨V, hV⟩ := Classical.skolem.1 AP
    obtain ⟨WW, hW⟩ := Classical.skolem.1 hV
    have happ : ∀ k : Nat, (Builtin.append_ #[25, 25] 25 #[u6, .slice (some ⟨bd.block, bd.off + 12, none⟩) m (cb - 12)]).run Try.prog (wr.drewN k) = .ok (V k) (WW k) := fun k => (hW k).1
    have HAP := Aside0.mk (fun k => (hW k).2)
    have c10W : ∀ k, (WW k).cell? ⟨bd.block, bd.off + 10, none⟩ = some (.int .u8 (gd (gl L (a + n)) 10)) := fun k => pw_cell_below (HAP.out k).2.2 C10W.out
    have hw12 : IntKind.i64.wrap (12 + (m : Int)) = 12 + (m : Int) := IntWalk.i64_in _ (by omega)
    clear AP hV hW hlp hpiece hm HOK g1
    by_cases hn0 : n = 0
    · have b1 : (gd (gl L (a + n)) 10 % 2 == 1) = true := by simpa [hn0] using g2
      have b1t : (Int.tmod (gd (gl L (a + n)) 10) 2 == 1) = true := by rw [Int.tmod_eq_emod_of_nonneg (by omega)]; exact b1
      have b2 : ((n : Int) == 0) = true := by simp [hn0]
      have b3 : decide (0 < n) = false := by simp [hn0]
      clear g2 g3 hn0
      have ia1 : (a : Int) < (L.length : Int) := by omega
      have ia0 : (0 : Int) ≤ (a : Int) := by omega
      have hwan : IntKind.i64.wrap ((a : Int) + (n : Int)) = (a : Int) + (n : Int) := IntWalk.i64_in _ (by omega)
      go_wp2
      go_quiet ((first | (go_at_call 42; exact quiet_drawn (G.out _)) | (go_at_call 36; first | (with_reducible exact quiet_left (C1.out _)) | (with_reducible exact quiet_left (C2.out _)))))
      clear hwan ia1 ia0
      by_cases h2 : 2 ≤ gd (gl L (a + n)) 10
      · have HE : Aside0 (rec1 L a = some (out ++ piece (gl L (a + n)), n + 1)) := ⟨by rw [HE0.out, HOK2.out, if_pos rfl, if_pos h2]⟩
        have h2' : decide (gd (gl L (a + n)) 10 ≥ 2) = true := decide_eq_true h2
        have h2'' : decide (2 ≤ gd (gl L (a + n)) 10) = true := decide_eq_true h2
        generalize gd (gl L (a + n)) 10 = x at *
        clear h2
        go_wp2_with (at_builtin; refine wpList_append_run rfl (.tmp 56) (.tmp 63) 25 25 rfl rfl _ _ _ rfl rfl (happ _) ?_)
        go_ret2
        exact RecPost.yes HE.out rfl (HAP.out _).1 (HAP.out _).2.2
      · have HE : Aside0 (rec1 L a = recGo L a (L.length + 1 - (n + 1)) (n + 1) (out ++ piece (gl L (a + n)))) := ⟨by rw [HE0.out, HOK2.out, if_pos rfl, if_neg h2]⟩
        have h2' : decide (gd (gl L (a + n)) 10 ≥ 2) = false := decide_eq_false h2
        have h2'' : decide (2 ≤ gd (gl L (a + n)) 10) = false := decide_eq_false h2
        generalize gd (gl L (a + n)) 10 = x at *
        clear h2
        go_wp2_with (at_builtin; refine wpList_append_run rfl (.tmp 56) (.tmp 63) 25 25 rfl rfl _ _ _ rfl rfl (happ _) ?_)
        go_roundw
        case rel => exact ⟨n + 1, _, by go_num, by omega, HE, ⟨(HAP.out _).1⟩, ⟨(HAP.out _).2.2⟩, ⟨(HAP.out 0).2.1⟩⟩
        case measure => simp [intOf]; omega
    · have b1 : (gd (gl L (a + n)) 10 % 2 == 1) = false := by simpa [hn0] using g2
      have b1t : (Int.tmod (gd (gl L (a + n)) 10) 2 == 1) = false := by rw [Int.tmod_eq_emod_of_nonneg (by omega)]; exact b1
      have b2 : ((n : Int) == 0) = false := by simp; omega
      have b3 : decide (0 < n) = true := by simp; omega
      have b4 : (gen (gl L (a + n)) != gen (gl L a)) = false := by simpa [hn0] using g3
      clear g2 g3 hn0
      have ia1 : (a : Int) < (L.length : Int) := by omega
      have ia0 : (0 : Int) ≤ (a : Int) := by omega
      have hwan : IntKind.i64.wrap ((a : Int) + (n : Int)) = (a : Int) + (n : Int) := IntWalk.i64_in _ (by omega)
      go_wp2
      go_quiet ((first | (go_at_call 42; exact quiet_drawn (G.out _)) | (go_at_call 36; first | (with_reducible exact quiet_left (C1.out _)) | (with_reducible exact quiet_left (C2.out _)))))
      clear hwan ia1 ia0
      by_cases h2 : 2 ≤ gd (gl L (a + n)) 10
      · have HE : Aside0 (rec1 L a = some (out ++ piece (gl L (a + n)), n + 1)) := ⟨by rw [HE0.out, HOK2.out, if_pos rfl, if_pos h2]⟩
        have h2' : decide (gd (gl L (a + n)) 10 ≥ 2) = true := decide_eq_true h2
        have h2'' : decide (2 ≤ gd (gl L (a + n)) 10) = true := decide_eq_true h2
        generalize gd (gl L (a + n)) 10 = x at *
        clear h2
        go_wp2_with (at_builtin; refine wpList_append_run rfl (.tmp 56) (.tmp 63) 25 25 rfl rfl _ _ _ rfl rfl (happ _) ?_)
        go_ret2
        exact RecPost.yes HE.out rfl (HAP.out _).1 (HAP.out _).2.2
      · have HE : Aside0 (rec1 L a = recGo L a (L.length + 1 - (n + 1)) (n + 1) (out ++ piece (gl L (a + n)))) := ⟨by rw [HE0.out, HOK2.out, if_pos rfl, if_neg h2]⟩
        have h2' : decide (gd (gl L (a + n)) 10 ≥ 2) = false := decide_eq_false h2
        have h2'' : decide (2 ≤ gd (gl L (a + n)) 10) = false := decide_eq_false h2
        generalize gd (gl L (a + n)) 10 = x at *
        clear h2
        go_wp2_with (at_builtin; refine wpList_append_run rfl (.tmp 56) (.tmp 63) 25 25 rfl rfl _ _ _ rfl rfl (happ _) ?_)
        go_roundw
        case rel => exact ⟨n + 1, _, by go_num, by omega, HE, ⟨(HAP.out _).1⟩, ⟨(HAP.out _).2.2⟩, ⟨(HAP.out 0).2.1⟩⟩
        case measure => simp [intOf]; omega
end Go.Proofs.Ytfoojamabjpdpaa.Wal
