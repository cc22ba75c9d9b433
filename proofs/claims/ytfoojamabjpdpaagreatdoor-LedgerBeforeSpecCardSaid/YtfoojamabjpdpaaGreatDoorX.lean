import Derived.Test.YtfoojamabjpdpaaGreatDoorV
import Derived.Test.YtfoojamabjpdpaaGreatDoorR
/- ledger.Before: the closure (15), EqualFunc (14), Before (6). -/
namespace Go.Proofs.YtfoojamabjpdpaaGreatDoor.Led
open Go.RowKit Go.Proofs.YtfoojamabjpdpaaGreatDoorW.PrintWords Go.Proofs.YtfoojamabjpdpaaGreatDoorW.PrintLast Go.Proofs.YtfoojamabjpdpaaGreatDoorW.PrintMore Go.Proofs.YtfoojamabjpdpaaGreatDoor.PLedgerBeforeSpec
attribute [local go_sem] max2_int min2_int max_two min_two max_three min_three max_four min_four
attribute [local go_sem] ba_get ba_size List.getElem_toArray List.getElem_cons_zero List.getElem_cons_succ List.size_toArray List.length_cons List.length_nil
set_option linter.unusedVariables false
set_option linter.unusedSimpArgs false
set_option maxHeartbeats 4000000 in
set_option maxRecDepth 100000 in
theorem clos15 (n0 n1 : Int) (A0 A1 : Option Addr) (c0 c1 : Nat) (l m : List S32) (w : World) (h0 : Kd.C k32 w A0 l.length l) (hc0 : l.length ≤ c0) (h1 : Kd.C k32 w A1 m.length m) (hc1 : m.length ≤ c1) (hb : l.length < 2 ^ 63) :
    Calls Tryz.prog 15 #[.agg #[.int .i64 n0, .slice A0 l.length c0], .agg #[.int .i64 n1, .slice A1 m.length c1]] w fun e w' => e = .returned (.bool (decide (n0 = n1) && sameA l m)) ∧ Below w.heap.size w w' := by
  have hu39 := Tryz.underlying39
  have hu35 := Tryz.underlying35
  obtain ⟨k, hk⟩ := a16_says l m hb
  have b2 := below2 w (.cells #[.int .i64 n0, .slice A0 l.length c0] 39) (.cells #[.int .i64 n1, .slice A1 m.length c1] 39)
  have HA := Aside0.mk (And.intro h0 h1)
  have HB := Aside0.mk b2
  clear h0 h1 b2
  have HK := Aside0.mk (And.intro hk (And.intro hc0 hc1))
  clear hk
  by_cases hn : n0 = n1
  · subst hn
    have hn' : (n0 == n0) = true := beq_self_eq_true n0
    go_enter Tryz.func15, Tryz.ntmps15
    go_wp2_with (go_at_call 16; refine (api_Atom_16.calls k _ _ l _ _ m (sameA l m) _ (Kd.C_alloc (Kd.C_alloc HA.out.1 _) _) HK.out.2.1 (Kd.C_alloc (Kd.C_alloc HA.out.2 _) _) HK.out.2.2 HK.out.1).mono ?_; rintro e w' ⟨rfl, nd, rfl⟩)
    go_ret
    exact ⟨by simp, pw_below_drewN HB.out nd⟩
  · have hn' : (n0 == n1) = false := beq_eq_false_iff_ne.mpr hn
    go_enter Tryz.func15, Tryz.ntmps15
    go_wp2
    go_ret
    exact ⟨by simp [hn], HB.out⟩
theorem getD_lt {l : List S39} {i : Nat} (h : i < l.length) : rd_T39 l i ∈ l := by
  unfold rd_T39
  rw [Int.toNat_natCast, List.getD_eq_getElem?_getD, List.getElem?_eq_getElem h]
  exact List.getElem_mem _
set_option maxHeartbeats 4000000 in
set_option maxRecDepth 100000 in
theorem EqualFunc14 (n : Nat) (A0 A1 : Option Addr) (c0 c1 : Nat) (l m : List S39) (w : World) (h0 : Kd.C k39 w A0 l.length l) (hn : n = l.length) (h1 : Kd.C k39 w A1 m.length m) (hm : n ≤ m.length) (hc0 : n ≤ c0) (hc1 : n ≤ c1) (hb : n < 2 ^ 63) (hp : ∀ e ∈ l, e.f1.f0.length < 2 ^ 63) :
    Calls Tryz.prog 14 #[.slice A0 n c0, .slice A1 n c1, .func (.func 15) #[] #[]] w fun e w' => e = .returned (.bool (allR (eqE l m) 0 n)) ∧ Below w.heap.size w w' := by
  have hu39 := Tryz.underlying39
  have hu35 := Tryz.underlying35
  have HA := Aside0.mk (And.intro h0 h1)
  have HH := Aside0.mk (And.intro hn (And.intro hm (And.intro hc0 (And.intro hc1 (And.intro hb hp)))))
  clear h0 h1 hn hm hc0 hc1 hb hp
  go_enter Tryz.func14, Tryz.ntmps14
  go_wp2
  go_loopg [17] (n + 1) (fun kq v17 w' => ∃ (i : Nat), v17 = .int .i64 (i : Int) ∧ Aside0 (i + kq = n + 1) ∧ Aside0 (allR (eqE l m) 0 n = allR (eqE l m) i (n - i)) ∧ Aside0 (Below w.heap.size w w'))
  case atStart => exact ⟨0, rfl, ⟨by omega⟩, ⟨rfl⟩, ⟨Below.refl _ _⟩⟩
  case round =>
    obtain ⟨i, rfl, HI, HR, HB⟩ := hrel
    by_cases hi : i < n
    · cases gk with
      | zero => exact absurd HI.out (by omega)
      | succ k1 =>
      have HX : Aside0 ((i : Int) = (i : Int)) := ⟨rfl⟩
      obtain ⟨x, hx⟩ : ∃ x : Int, x = (i : Int) := ⟨_, rfl⟩
      have hxn : x.toNat = i := by omega
      have hE : allR (eqE l m) i (n - i) = (eqE l m i && allR (eqE l m) (i + 1) (n - (i + 1))) := by
        rw [show n - i = (n - (i + 1)) + 1 by omega]; rfl
      obtain ⟨eln, hm, hc0, hc1, hb, hp⟩ := HH.out
      have hpi := hp _ (getD_lt (l := l) (i := i) (by omega))
      have hEE : eqE l m i = (decide ((rd_T39 l x).f0 = (rd_T39 m x).f0) && sameA (rd_T39 l x).f1.f0 (rd_T39 m x).f1.f0) := by rw [hx]; rfl
      obtain ⟨ad0, A01, c01, e0, hx0, hx1, hl0, hi0⟩ := at_T39 HA.out.1 x (by omega) (by omega)
      obtain ⟨ad1, A11, c11, e1, hy0, hy1, hl1, hi1⟩ := at_T39 HA.out.2 x (by omega) (by omega)
      cases e0
      cases e1
      rw [← hx] at hpi
      have hw : wrap64 (x + 1) = ((i + 1 : Nat) : Int) := by rw [hx]; exact wrap_succ i (by omega)
      rw [← hx]
      have d1 : decide (x < (n : Int)) = true := decide_eq_true (by omega)
      have d2 : decide (0 ≤ x) = true := decide_eq_true (by omega)
      replace hx0 := (HB.out.cell (World.block_lt_of_cell? w _ hx0)).trans hx0
      replace hx1 := (HB.out.cell (World.block_lt_of_cell? w _ hx1)).trans hx1
      replace hy0 := (HB.out.cell (World.block_lt_of_cell? w _ hy0)).trans hy0
      replace hy1 := (HB.out.cell (World.block_lt_of_cell? w _ hy1)).trans hy1
      have h0 := eq_true (show (0 : Int) ≤ x by omega)
      have h1 := eq_true (show x < (n : Int) by omega)
      have HF := Aside0.mk (And.intro hi0 (And.intro hl0 (And.intro hi1 (And.intro hl1 hpi))))
      have HW := Aside0.mk hw
      have HQ := Aside0.mk (hE.trans (by rw [hEE]))
      clear hi0 hl0 hi1 hl1 hpi hw hE hEE hp hm hc0 hc1 hb eln hxn
      have HI2 := Aside0.mk (And.intro hi hx)
      clear hi hx
      have B1 := below1 wr (.cells #[.int .i64 (rd_T39 l x).f0, .slice A01 (rd_T39 l x).f1.f0.length c01] 39)
      have z0 := pw_cell_below B1 hy0
      have z1 := pw_cell_below B1 hy1
      have B2 := below2 wr (.cells #[.int .i64 (rd_T39 l x).f0, .slice A01 (rd_T39 l x).f1.f0.length c01] 39) (.cells #[.int .i64 (rd_T39 m x).f0, .slice A11 (rd_T39 m x).f1.f0.length c11] 39)
      have HB2 := Aside0.mk (HB.out.trans (B2.mono HB.out.size))
      clear B1 B2
      obtain ⟨q, hq⟩ : ∃ q, (decide ((rd_T39 l x).f0 = (rd_T39 m x).f0) && sameA (rd_T39 l x).f1.f0 (rd_T39 m x).f1.f0) = q := ⟨_, rfl⟩
      have HQ3 := Aside0.mk hq
      clear hq
      cases q with
      | false =>
        go_wp2_with (go_at_call 15; refine (clos15 _ _ _ _ _ _ (rd_T39 l x).f1.f0 (rd_T39 m x).f1.f0 _ (Kd.C_below HF.out.1 HB2.out) HF.out.2.1 (Kd.C_below HF.out.2.2.1 HB2.out) HF.out.2.2.2.1 HF.out.2.2.2.2).mono ?_; rintro e w' ⟨he, hb⟩; rw [HQ3.out] at he; subst he; have HB3 := Aside0.mk (HB2.out.trans (hb.mono HB2.out.size)); clear hb)
        go_ret
        exact ⟨by rw [HR.out, HQ.out, HQ3.out]; rfl, HB3.out⟩
      | true =>
        go_wp2_with (go_at_call 15; refine (clos15 _ _ _ _ _ _ (rd_T39 l x).f1.f0 (rd_T39 m x).f1.f0 _ (Kd.C_below HF.out.1 HB2.out) HF.out.2.1 (Kd.C_below HF.out.2.2.1 HB2.out) HF.out.2.2.2.1 HF.out.2.2.2.2).mono ?_; rintro e w' ⟨he, hb⟩; rw [HQ3.out] at he; subst he; have HB3 := Aside0.mk (HB2.out.trans (hb.mono HB2.out.size)); clear hb)
        go_roundg k1
        case measure => omega
        case rel => exact ⟨i + 1, by rw [HW.out], ⟨by have := HI.out; omega⟩, ⟨by rw [HR.out, HQ.out, HQ3.out]; rfl⟩, ⟨HB3.out⟩⟩
    · have d1 : decide ((i : Int) < (n : Int)) = false := decide_eq_false (by omega)
      have hr : allR (eqE l m) i (n - i) = true := by rw [show n - i = 0 by omega]; rfl
      have HR2 := Aside0.mk (HR.out.trans hr)
      clear hr
      go_wp2
      go_ret
      exact ⟨by rw [HR2.out]; rfl, HB.out⟩
end Go.Proofs.YtfoojamabjpdpaaGreatDoor.Led
