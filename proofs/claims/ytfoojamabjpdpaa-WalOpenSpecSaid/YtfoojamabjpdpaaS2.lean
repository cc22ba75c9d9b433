import Derived.Test.YtfoojamabjpdpaaS
/- When a sector is good: the two definitions agree. Plain. -/
namespace Go.Proofs.Ytfoojamabjpdpaa.Wal
theorem be4_num (l : List Int) (h : l.length = 4) (hb : N8 l) : be4 (num l) = l := by
  match l, h with
  | [a, b, c, d], _ =>
    have ha := hb a (by simp); have hb' := hb b (by simp); have hc := hb c (by simp); have hd := hb d (by simp)
    have e : num [a, b, c, d] = ((a * 256 + b) * 256 + c) * 256 + d := by simp [num]
    rw [e, be4]
    congr 1
    · omega
    congr 1
    · omega
    congr 1
    · omega
    congr 1
    omega
theorem num_be4 (n : Int) (h : 0 ≤ n ∧ n < 4294967296) : num (be4 n) = n := by
  simp only [num, be4, List.foldl]; omega
theorem be2_num (l : List Int) (h : l.length = 2) (hb : N8 l) : be2 (num l) = l := by
  match l, h with
  | [a, b], _ =>
    have ha := hb a (by simp); have hb' := hb b (by simp)
    have e : num [a, b] = a * 256 + b := by simp [num]
    rw [e, be2]
    congr 1
    · omega
    congr 1
    omega
theorem num_be2 (n : Int) (h : 0 ≤ n ∧ n < 65536) : num (be2 n) = n := by
  simp only [num, be2, List.foldl]; omega

/-- Zero bytes behind the record's bytes. -/
def zeroS (s : List Int) : Bool := (List.range 124).all fun i => decide (i < 12 + (gd s 11).toNat) || gd s i == 0
theorem zeroS_iff (s : List Int) : zeroS s = true ↔ ∀ i, 12 + (gd s 11).toNat ≤ i → i < 124 → gd s i = 0 := by
  simp only [zeroS, List.all_eq_true, List.mem_range, Bool.or_eq_true, decide_eq_true_iff, beq_iff_eq]
  constructor
  · intro h i h1 h2
    rcases h i h2 with h | h
    · omega
    · exact h
  · intro h i hi
    by_cases h1 : i < 12 + (gd s 11).toNat
    · exact .inl h1
    · exact .inr (h i (by omega) hi)
/-- The form of a sector with number k, apart from what its bytes say of each other. -/
def formS (s : List Int) : Bool := decide (gd s 11 ≤ 112) && decide (gd s 10 ≤ 3) && !(decide (gd s 10 < 2) && decide (gd s 11 ≠ 112)) && !(decide (gd s 10 % 2 = 0) && decide (gd s 11 = 0))
def goodS (s : List Int) (k : Int) : Bool :=
  decide (num (s.take 4) ≠ 0) && decide (num (s.take 4) = num (s.drop 124)) && decide (num ((s.take 8).drop 4) = crc ((s.take 124).drop 8)) && decide (num ((s.take 10).drop 8) = k) && formS s && zeroS s

theorem split_sector (s : List Int) (h : s.length = 128) (n : Nat) (hn : n ≤ 112) :
    s = s.take 4 ++ ((s.take 8).drop 4 ++ ((s.take 10).drop 8 ++ ([gd s 10, gd s 11] ++ ((s.take (12 + n)).drop 12 ++ ((s.take 124).drop (12 + n) ++ s.drop 124))))) := by
  have cut : ∀ a b c : Nat, a ≤ b → b ≤ c → (s.take c).drop a = (s.take b).drop a ++ (s.take c).drop b := fun a b c h1 h2 => by
    have e : s.take c = s.take b ++ (s.take c).drop b := by
      conv => lhs; rw [← List.take_append_drop b (s.take c)]
      rw [List.take_take, Nat.min_eq_left h2]
    by_cases hb : b ≤ s.length
    · conv => lhs; rw [e]
      rw [List.drop_append_of_le_length (by rw [List.length_take]; omega)]
    · rw [List.take_of_length_le (by omega : s.length ≤ c), List.take_of_length_le (by omega : s.length ≤ b), List.drop_of_length_le (by omega : s.length ≤ b), List.append_nil]
  have hd : s.drop 124 = (s.take 128).drop 124 := by rw [List.take_of_length_le (by omega)]
  have h2 : (s.take 12).drop 10 = [gd s 10, gd s 11] := by
    rw [List.take_succ_eq_append_getElem (by omega), List.take_succ_eq_append_getElem (by omega), List.append_assoc, List.drop_left' (by rw [List.length_take]; omega)]
    simp [gd, h]
  rw [hd, ← h2, ← cut (12 + n) 124 128 (by omega) (by omega), ← cut 12 (12 + n) 128 (by omega) (by omega), ← cut 10 12 128 (by omega) (by omega), ← cut 8 10 128 (by omega) (by omega), ← cut 4 8 128 (by omega) (by omega)]
  rw [List.take_of_length_le (by omega : s.length ≤ 128), List.take_append_drop]

theorem gd_drop (s : List Int) (a i : Nat) : gd (s.drop a) i = gd s (a + i) := by
  simp [gd, List.getD_eq_getElem?_getD, List.getElem?_drop]
theorem gd_take (s : List Int) (a i : Nat) (h : i < a) : gd (s.take a) i = gd s i := by
  simp [gd, List.getD_eq_getElem?_getD, List.getElem?_take_of_lt h]
theorem ext_gd (s t : List Int) (h : s.length = t.length) (hi : ∀ i, i < s.length → gd s i = gd t i) : s = t := by
  refine List.ext_getElem h fun i h1 h2 => ?_
  have := hi i h1
  simpa [gd, h1, h2] using this
theorem zeros_iff (s : List Int) (h : s.length = 128) (hn : (gd s 11).toNat ≤ 112) : zeroS s = true ↔ (s.take 124).drop (12 + (gd s 11).toNat) = List.replicate (112 - (gd s 11).toNat) 0 := by
  rw [zeroS_iff]
  constructor
  · intro hz
    refine ext_gd _ _ (by rw [List.length_drop, List.length_take, List.length_replicate]; omega) fun i hi => ?_
    rw [List.length_drop, List.length_take] at hi
    rw [gd_drop, gd_take _ _ _ (by omega), hz _ (by omega) (by omega)]
    rw [gd, List.getD_eq_getElem?_getD, List.getElem?_replicate]
    split <;> rfl
  · intro he i h1 h2
    have hg : gd ((s.take 124).drop (12 + (gd s 11).toNat)) (i - (12 + (gd s 11).toNat)) = 0 := by
      rw [he, gd, List.getD_eq_getElem?_getD, List.getElem?_replicate]
      split <;> rfl
    rw [gd_drop, gd_take _ _ _ (by omega)] at hg
    rwa [show 12 + (gd s 11).toNat + (i - (12 + (gd s 11).toNat)) = i by omega] at hg

theorem good_enc (s : List Int) (k : Int) (h : s.length = 128) (hb : N8 s) (hk : 0 ≤ k ∧ k < 65536) :
    (formS s && decide (num (s.take 4) > 0) && decide (s = encS (num (s.take 4)) k (gd s 10) ((s.take (12 + (gd s 11).toNat)).drop 12))) = goodS s k := by
  have h11 := hb.gd 11
  have hn0 := num_bd (s.take 4) (hb.take 4)
  cases hf : formS s with
  | false => simp [goodS, hf]
  | true =>
    have hn : (gd s 11).toNat ≤ 112 := by
      simp only [formS, Bool.and_eq_true, decide_eq_true_iff] at hf
      omega
    have hs := split_sector s h (gd s 11).toNat hn
    have l0 : (s.take 4).length = 4 := by rw [List.length_take]; omega
    have l1 : ((s.take 8).drop 4).length = 4 := by rw [List.length_drop, List.length_take]; omega
    have l2 : ((s.take 10).drop 8).length = 2 := by rw [List.length_drop, List.length_take]; omega
    have l3 : ((s.take (12 + (gd s 11).toNat)).drop 12).length = (gd s 11).toNat := by rw [List.length_drop, List.length_take]; omega
    have l4 : ((s.take 124).drop (12 + (gd s 11).toNat)).length = 112 - (gd s 11).toNat := by rw [List.length_drop, List.length_take]; omega
    have l5 : (s.drop 124).length = 4 := by rw [List.length_drop]; omega
    have hbody : (s.take 124).drop 8 = (s.take 10).drop 8 ++ ([gd s 10, gd s 11] ++ ((s.take (12 + (gd s 11).toNat)).drop 12 ++ (s.take 124).drop (12 + (gd s 11).toNat))) := by
      have e : s = (s.take 4 ++ (s.take 8).drop 4 ++ ((s.take 10).drop 8 ++ ([gd s 10, gd s 11] ++ ((s.take (12 + (gd s 11).toNat)).drop 12 ++ (s.take 124).drop (12 + (gd s 11).toNat))))) ++ s.drop 124 := by
        simpa only [List.append_assoc] using hs
      have e1 : s.take 124 = s.take 4 ++ (s.take 8).drop 4 ++ ((s.take 10).drop 8 ++ ([gd s 10, gd s 11] ++ ((s.take (12 + (gd s 11).toNat)).drop 12 ++ (s.take 124).drop (12 + (gd s 11).toNat)))) := by
        have ht := congrArg (List.take 124) e
        rwa [List.take_left' (by simp only [List.length_append, l0, l1, l2, l3, l4, List.length_cons, List.length_nil]; omega)] at ht
      have hd := congrArg (List.drop 8) e1
      rwa [List.drop_left' (by simp only [List.length_append, l0, l1])] at hd
    rw [Bool.eq_iff_iff]
    simp only [goodS, hf, Bool.true_and, Bool.and_true, Bool.and_eq_true, decide_eq_true_iff]
    constructor
    · rintro ⟨hpos, he⟩
      conv at he => lhs; rw [hs]
      rw [encS, bodyS] at he
      simp only [List.append_assoc] at he
      obtain ⟨_, he⟩ := List.append_inj he (by rw [l0]; rfl)
      obtain ⟨h1, he⟩ := List.append_inj he (by rw [l1]; rfl)
      obtain ⟨h2, he⟩ := List.append_inj he (by rw [l2]; rfl)
      obtain ⟨_, he⟩ := List.append_inj he rfl
      obtain ⟨_, he⟩ := List.append_inj he rfl
      obtain ⟨h4, h5⟩ := List.append_inj he (by rw [l4, List.length_replicate, l3])
      rw [l3] at h4
      have h2' : num ((s.take 10).drop 8) = k := by rw [h2]; exact num_be2 _ hk
      have hg : 0 ≤ num (s.take 4) ∧ num (s.take 4) < 4294967296 := num_lt _ (hb.take _) (k := 4) (by omega)
      have h5' : num (s.take 4) = num (s.drop 124) := by rw [h5]; exact (num_be4 _ hg).symm
      refine ⟨⟨⟨⟨by omega, h5'⟩, ?_⟩, h2'⟩, (zeros_iff s h hn).2 h4⟩
      rw [h1, num_be4 _ (crc_bd _), hbody, h4, h2, l3, show (((gd s 11).toNat : Nat) : Int) = gd s 11 by omega]
    · rintro ⟨⟨⟨⟨h0, h5⟩, h1⟩, h2⟩, hz⟩
      refine ⟨by omega, ?_⟩
      have e2 : be2 k = (s.take 10).drop 8 := by rw [← h2]; exact be2_num _ l2 ((hb.take _).drop _)
      have e0 : be4 (num (s.take 4)) = s.take 4 := be4_num _ l0 (hb.take _)
      have e5 : be4 (num (s.take 4)) = s.drop 124 := by rw [h5]; exact be4_num _ l5 (hb.drop _)
      have e4 := (zeros_iff s h hn).1 hz
      have eb : bodyS k (gd s 10) ((s.take (12 + (gd s 11).toNat)).drop 12) = (s.take 124).drop 8 := by
        rw [bodyS, l3, ← e4, e2, hbody, show (((gd s 11).toNat : Nat) : Int) = gd s 11 by omega]
      have e1 : be4 (crc ((s.take 124).drop 8)) = (s.take 8).drop 4 := by rw [← h1]; exact be4_num _ l1 ((hb.take _).drop _)
      rw [encS, eb, e1, e5, ← e5, e0]
      conv => lhs; rw [hs]
      rw [hbody, ← e0, e5]
      simp only [List.append_assoc]
end Go.Proofs.Ytfoojamabjpdpaa.Wal
