import Derived.Test.YtfoojamabjpdpaaGreatDoorX
/- ledger.Before (6). -/
namespace Go.Proofs.YtfoojamabjpdpaaGreatDoor.Led
open Go.RowKit Go.Proofs.YtfoojamabjpdpaaGreatDoorW.PrintWords Go.Proofs.YtfoojamabjpdpaaGreatDoorW.PrintLast Go.Proofs.YtfoojamabjpdpaaGreatDoorW.PrintMore Go.Proofs.YtfoojamabjpdpaaGreatDoor.PLedgerBeforeSpec
attribute [local go_sem] max2_int min2_int max_two min_two max_three min_three max_four min_four
attribute [local go_sem] ba_get ba_size List.getElem_toArray List.getElem_cons_zero List.getElem_cons_succ List.size_toArray List.length_cons List.length_nil
set_option linter.unusedVariables false
set_option linter.unusedSimpArgs false
set_option maxHeartbeats 4000000 in
set_option maxRecDepth 100000 in
theorem Before6 (a0 : ByteArray) (n0 : Int) (A0 : Option Addr) (c0 : Nat) (l : List S39) (a1 : ByteArray) (n1 : Int) (A1 : Option Addr) (c1 : Nat) (m : List S39) (w : World) (h0 : Kd.C k39 w A0 l.length l) (hc0 : l.length ≤ c0) (h1 : Kd.C k39 w A1 m.length m) (hc1 : m.length ≤ c1) (hb : l.length < 2 ^ 63) (hp : ∀ e ∈ l, e.f1.f0.length < 2 ^ 63) :
    Calls Tryz.prog 6 #[.agg #[.string a0, .int .i64 n0, .slice A0 l.length c0], .agg #[.string a1, .int .i64 n1, .slice A1 m.length c1]] w fun e w' => e = .returned (.bool (befS a0 n0 l a1 n1 m)) ∧ Below w.heap.size w w' := by
  have hu24 := Tryz.underlying24
  have b2 := below2 w (.cells #[.string a0, .int .i64 n0, .slice A0 l.length c0] 24) (.cells #[.string a1, .int .i64 n1, .slice A1 m.length c1] 24)
  have HA := Aside0.mk (And.intro (Kd.C_below h0 b2) (Kd.C_below h1 b2))
  have HH := Aside0.mk (And.intro hc0 (And.intro hc1 (And.intro hb hp)))
  have HB := Aside0.mk b2
  clear h0 h1 b2 hc0 hc1 hb hp
  by_cases e1 : a0.toList = a1.toList
  · have t1 : (a0.toList != a1.toList) = false := bne_eq_false_iff_eq.mpr e1
    have t1' : (a0.toList == a1.toList) = true := beq_iff_eq.mpr e1
    by_cases e2 : n0 = n1
    · have t2 : (n0 != n1) = false := bne_eq_false_iff_eq.mpr e2
      have t2' : (n0 == n1) = true := beq_iff_eq.mpr e2
      by_cases e3 : l.length ≤ m.length
      · have t3 : decide ((l.length : Int) > (m.length : Int)) = false := decide_eq_false (by omega)
        have t4 : decide (m.length < l.length) = false := decide_eq_false (by omega)
        have E := Aside0.mk (And.intro e1 (And.intro e2 e3))
        clear e1 e2 e3
        go_enter Tryz.func6, Tryz.ntmps6
        go_wp2
        have x0 : ((w.alloc (Obj.cells #[Value.string a0, Value.int IntKind.i64 n0, Value.slice A0 l.length c0] 24)).alloc (Obj.cells #[Value.string a1, Value.int IntKind.i64 n1, Value.slice A1 m.length c1] 24)).drew.cell? ⟨w.heap.size, 2, none⟩ = some (.slice A0 l.length c0) := pw_cell_below (below1 (w.alloc (Obj.cells #[Value.string a0, Value.int IntKind.i64 n0, Value.slice A0 l.length c0] 24)) _) (cell_new w #[Value.string a0, Value.int IntKind.i64 n0, Value.slice A0 l.length c0] 24 (0, 0) 2)
        have x1 : ((w.alloc (Obj.cells #[Value.string a0, Value.int IntKind.i64 n0, Value.slice A0 l.length c0] 24)).alloc (Obj.cells #[Value.string a1, Value.int IntKind.i64 n1, Value.slice A1 m.length c1] 24)).drew.cell? ⟨w.heap.size + 1, 2, none⟩ = some (.slice A1 m.length c1) := cell_new2 w _ #[Value.string a1, Value.int IntKind.i64 n1, Value.slice A1 m.length c1] 24 2
        have hlen1 : (l.length : Int) ≤ (c1 : Int) := by have := E.out.2.2; have := HH.out.2.1; omega
        have hlen2 : l.length ≤ c1 := by have := E.out.2.2; have := HH.out.2.1; omega
        go_region_held3 (fun w' => w'.cell? ⟨w.heap.size, 2, none⟩ = some (.slice A0 l.length c0) ∧ w'.cell? ⟨w.heap.size + 1, 2, none⟩ = some (.slice A1 m.length c1)) (first | go_keep | exact ⟨x0, x1⟩) (first
          | (go_at_call 14
             refine (EqualFunc14 l.length A0 A1 c0 c1 l m _ ?_ rfl ?_ E.out.2.2 HH.out.1 hlen2 HH.out.2.2.1 HH.out.2.2.2).mono ?_
             · exact Kd.C_drew HA.out.1
             · exact Kd.C_drew HA.out.2
             rintro e w4 ⟨rfl, hb⟩
             have HB4 := Aside0.mk ((pw_below_drewN HB.out 1).trans (hb.mono HB.out.size))
             have y0 := pw_cell_below hb x0
             have y1 := pw_cell_below hb x1
             clear hb))
        all_goals
          go_wp2
          go_ret
          exact ⟨by obtain ⟨q1, q2, q3⟩ := E.out; simp [befS, q1, q2, q3], HB4.out⟩
      · have t3 : decide ((l.length : Int) > (m.length : Int)) = true := decide_eq_true (by omega)
        have t4 : decide (m.length < l.length) = true := decide_eq_true (by omega)
        go_enter Tryz.func6, Tryz.ntmps6
        have E := Aside0.mk e3
        clear e1 e2 e3
        go_wp2
        go_ret
        exact ⟨by simp only [befS, E.out, decide_false, Bool.false_and, Bool.and_false]; rfl, HB.out⟩
    · have t2 : (n0 != n1) = true := bne_iff_ne.mpr e2
      have t2' : (n0 == n1) = false := beq_eq_false_iff_ne.mpr e2
      go_enter Tryz.func6, Tryz.ntmps6
      have E := Aside0.mk e2
      clear e1 e2
      go_wp2
      go_ret
      exact ⟨by simp only [befS, E.out, decide_false, Bool.false_and, Bool.and_false]; rfl, HB.out⟩
  · have t1 : (a0.toList != a1.toList) = true := bne_iff_ne.mpr e1
    have t1' : (a0.toList == a1.toList) = false := beq_eq_false_iff_ne.mpr e1
    go_enter Tryz.func6, Tryz.ntmps6
    have E := Aside0.mk e1
    clear e1
    go_wp2
    go_ret
    exact ⟨by simp only [befS, E.out, decide_false, Bool.false_and, Bool.and_false]; rfl, HB.out⟩
/-- ledger.Before by the name of the answer. -/
theorem BefSelf6 (a0 : ByteArray) (n0 : Int) (A0 : Option Addr) (c0 : Nat) (l : List S39) (w : World) (h0 : Kd.C k39 w A0 l.length l) (hc0 : l.length ≤ c0) (hb : l.length < 2 ^ 63) (hp : ∀ e ∈ l, e.f1.f0.length < 2 ^ 63) :
    Calls Tryz.prog 6 #[.agg #[.string a0, .int .i64 n0, .slice A0 l.length c0], .agg #[.string a0, .int .i64 n0, .slice A0 l.length c0]] w fun e w' => e = .returned (.bool true) ∧ Below w.heap.size w w' := by
  have h := Before6 a0 n0 A0 c0 l a0 n0 A0 c0 l w h0 hc0 h0 hc0 hb hp
  rw [befS_self] at h
  exact h
theorem RefBefore7 (a0 : ByteArray) (n0 : Int) (A0 : Option Addr) (c0 : Nat) (l : List S39) (a1 : ByteArray) (n1 : Int) (A1 : Option Addr) (c1 : Nat) (m : List S39) (w : World) (h0 : Kd.C k39 w A0 l.length l) (hc0 : l.length ≤ c0) (h1 : Kd.C k39 w A1 m.length m) (hc1 : m.length ≤ c1) (hb : l.length < 2 ^ 63) (hp : ∀ e ∈ l, e.f1.f0.length < 2 ^ 63) :
    Calls Tryz.prog 7 #[.agg #[.string a0, .int .i64 n0, .slice A0 l.length c0], .agg #[.string a1, .int .i64 n1, .slice A1 m.length c1]] w fun e w' => e = .returned (.bool (befS a0 n0 l a1 n1 m)) ∧ Below w.heap.size w w' := by
  obtain ⟨k, h⟩ := bef_says a0 n0 l a1 n1 m hb hp
  exact veilstoneref38_Before.calls k a0 n0 A0 c0 l a1 n1 A1 c1 m _ w h0 hc0 h1 hc1 h
theorem Same13 (a0 : ByteArray) (n0 : Int) (A0 : Option Addr) (c0 : Nat) (l : List S39) (a1 : ByteArray) (n1 : Int) (A1 : Option Addr) (c1 : Nat) (m : List S39) (w : World) (h0 : Kd.C k39 w A0 l.length l) (hc0 : l.length ≤ c0) (h1 : Kd.C k39 w A1 m.length m) (hc1 : m.length ≤ c1) (hb : l.length < 2 ^ 63) (hp : ∀ e ∈ l, e.f1.f0.length < 2 ^ 63) :
    Calls Tryz.prog 13 #[.agg #[.string a0, .int .i64 n0, .slice A0 l.length c0], .agg #[.string a1, .int .i64 n1, .slice A1 m.length c1]] w fun e w' => e = .returned (.bool (decide (l.length = m.length) && befS a0 n0 l a1 n1 m)) ∧ Below w.heap.size w w' := by
  obtain ⟨k, h⟩ := same_says a0 n0 l a1 n1 m hb hp
  exact veilstoneref38_Same.calls k a0 n0 A0 c0 l a1 n1 A1 c1 m _ w h0 hc0 h1 hc1 h
theorem few5 (a0 : ByteArray) (n0 : Int) (A0 : Option Addr) (c0 : Nat) (l : List S39) (hb : l.length < 2 ^ 63) : ∃ r, ∀ (w : World), Kd.C k39 w A0 l.length l → l.length ≤ c0 →
    Calls Tryz.prog 5 #[.agg #[.string a0, .int .i64 n0, .slice A0 l.length c0]] w fun e w' => e = .returned (.bool r) ∧ Below w.heap.size w w' := by
  obtain ⟨k, r, h⟩ := few_says a0 n0 l hb
  exact ⟨r, fun w h0 hc0 => veilstonelaw38_few.calls k a0 n0 A0 c0 l r w h0 hc0 h⟩
end Go.Proofs.YtfoojamabjpdpaaGreatDoor.Led
