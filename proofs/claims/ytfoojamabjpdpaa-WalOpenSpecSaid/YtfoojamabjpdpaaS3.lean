import Derived.Test.YtfoojamabjpdpaaS2
/- The records that lie on sectors. Plain. -/
namespace Go.Proofs.Ytfoojamabjpdpaa.Wal
/-- The bytes of a record that a sector holds. -/
def piece (s : List Int) : List Int := (s.take (12 + (gd s 11).toNat)).drop 12
def gen (s : List Int) : Int := num (s.take 4)
/-- May the n-th sector from 'at' on belong to the record that begins there? -/
def okAt (L : List (List Int)) (a n : Nat) : Bool :=
  goodS (gl L (a + n)) ((a + n : Nat) : Int) && (decide (gd (gl L (a + n)) 10 % 2 = 1) == decide (n = 0)) && (decide (n = 0) || decide (gen (gl L (a + n)) = gen (gl L a)))
def recGo (L : List (List Int)) (a : Nat) : Nat → Nat → List Int → Option (List Int × Nat)
  | 0, _, _ => none
  | f + 1, n, out =>
    if a + n < L.length then
      if okAt L a n = true then
        if 2 ≤ gd (gl L (a + n)) 10 then some (out ++ piece (gl L (a + n)), n + 1) else recGo L a f (n + 1) (out ++ piece (gl L (a + n)))
      else none
    else none
def rec1 (L : List (List Int)) (a : Nat) : Option (List Int × Nat) := recGo L a (L.length + 1) 0 []
def recsGo (L : List (List Int)) : Nat → Nat → Int → List (List Int)
  | 0, _, _ => []
  | f + 1, a, last =>
    match rec1 L a with
    | none => []
    | some (b, n) => if gen (gl L a) < last then [] else b :: recsGo L f (a + n) (gen (gl L a))
def recS (L : List (List Int)) : List (List Int) := recsGo L (L.length + 1) 0 0
/-- What disk.Check has seen. -/
def Secs (L : List (List Int)) : Prop := L.length ≤ 4096 ∧ ∀ s ∈ L, s.length = 128 ∧ N8 s
theorem Secs.at_ {L : List (List Int)} (h : Secs L) (k : Nat) (hk : k < L.length) : (gl L k).length = 128 ∧ N8 (gl L k) := h.2 _ (gl_mem L k hk)
theorem piece_len (s : List Int) (h : s.length = 128) (hf : (gd s 11).toNat ≤ 112) : (piece s).length = (gd s 11).toNat := by
  rw [piece, List.length_drop, List.length_take]; omega
theorem good_ln {s : List Int} {k : Int} (h : goodS s k = true) : gd s 11 ≤ 112 ∧ gd s 10 ≤ 3 := by
  simp only [goodS, formS, Bool.and_eq_true, decide_eq_true_iff] at h
  omega
theorem recGo_pos (L : List (List Int)) (a : Nat) : ∀ f n out b m, recGo L a f n out = some (b, m) → n < m ∧ a + m ≤ L.length
  | 0, _, _, _, _, h => by simp [recGo] at h
  | f + 1, n, out, b, m, h => by
    rw [recGo] at h
    split at h
    · split at h
      · split at h
        · simp only [Option.some.injEq, Prod.mk.injEq] at h
          omega
        · have := recGo_pos L a f _ _ _ _ h
          omega
      · cases h
    · cases h
theorem rec1_pos {L : List (List Int)} {a : Nat} {b : List Int} {m : Nat} (h : rec1 L a = some (b, m)) : 0 < m ∧ a + m ≤ L.length := recGo_pos L a _ _ _ _ _ h
theorem recGo_len (L : List (List Int)) (hL : Secs L) (a : Nat) : ∀ f n out b m, recGo L a f n out = some (b, m) → out.length ≤ 112 * n → N8 out → b.length ≤ 112 * m ∧ N8 b
  | 0, _, _, _, _, h, _, _ => by simp [recGo] at h
  | f + 1, n, out, b, m, h, ho, hn => by
    rw [recGo] at h
    split at h
    case isTrue hlt =>
      obtain ⟨h1, h2⟩ := hL.at_ _ hlt
      split at h
      case isTrue hok =>
        have hg : goodS (gl L (a + n)) ((a + n : Nat) : Int) = true := by
          simp only [okAt, Bool.and_eq_true] at hok
          exact hok.1.1
        have hl := good_ln hg
        have hp := piece_len _ h1 (by omega)
        have ho' : (out ++ piece (gl L (a + n))).length ≤ 112 * (n + 1) := by rw [List.length_append, hp]; omega
        have hn' : N8 (out ++ piece (gl L (a + n))) := hn.append ((h2.take _).drop _)
        split at h
        · simp only [Option.some.injEq, Prod.mk.injEq] at h
          obtain ⟨rfl, rfl⟩ := h
          exact ⟨ho', hn'⟩
        · exact recGo_len L hL a f _ _ _ _ h ho' hn'
      case isFalse => cases h
    case isFalse => cases h
end Go.Proofs.Ytfoojamabjpdpaa.Wal
namespace Go.Proofs.Ytfoojamabjpdpaa.Wal
/-- More rounds tell the same. -/
theorem recsGo_more (L : List (List Int)) : ∀ f g a last, L.length < f + a → L.length < g + a → a ≤ L.length → recsGo L f a last = recsGo L g a last
  | 0, _, _, _, h, _, h3 => absurd h (by omega)
  | _ + 1, 0, _, _, _, h, h3 => absurd h (by omega)
  | f + 1, g + 1, a, last, h1, h2, h3 => by
    rw [recsGo, recsGo]
    cases hr : rec1 L a with
    | none => rfl
    | some x =>
      obtain ⟨b, n⟩ := x
      have hp := rec1_pos hr
      simp only
      split
      · rfl
      · rw [recsGo_more L f g (a + n) _ (by omega) (by omega) (by omega)]
end Go.Proofs.Ytfoojamabjpdpaa.Wal
namespace Go.Proofs.Ytfoojamabjpdpaa.Wal
theorem gl_drop (L : List (List Int)) (a k : Nat) : gl (L.drop a) k = gl L (a + k) := by
  simp [gl, List.getD_eq_getElem?_getD, List.getElem?_drop]
theorem gl_take (L : List (List Int)) (a k : Nat) (h : k < a) : gl (L.take a) k = gl L k := by
  simp [gl, List.getD_eq_getElem?_getD, List.getElem?_take_of_lt h]
theorem ckD_yes {L : List (List Int)} {left tear : Int} {st : Bool} (h : okD L left tear st = true) : ckD L left tear st = 0 := by simp [ckD, h]
theorem ckD_no {L : List (List Int)} {left tear : Int} {st : Bool} (h : okD L left tear st = false) : ckD L left tear st = 1 := by simp [ckD, h]
theorem secs_of {L : List (List Int)} {left tear : Int} {st : Bool} (h : okD L left tear st = true) (hb : ∀ s ∈ L, N8 s) : Secs L := by
  simp only [okD, Bool.and_eq_true, decide_eq_true_iff] at h
  refine ⟨by omega, fun s hs => ⟨?_, hb s hs⟩⟩
  have := (List.all_eq_true.1 h.2) s hs
  simpa using this
theorem Secs.part {L : List (List Int)} (h : Secs L) (lo hi : Nat) : Secs ((L.take hi).drop lo) :=
  ⟨by have := h.1; rw [List.length_drop, List.length_take]; omega, fun s hs => h.2 s (List.mem_of_mem_take (List.mem_of_mem_drop hs))⟩
/-- Does Open refuse its numbers? -/
def badArg (n : Nat) (first many : Int) : Bool := decide (first < 0) || decide (many < 1) || decide ((n : Int) < many) || decide ((n : Int) - many < first)
/-- What Open answers: first, many, the records, the error. -/
def openS (L : List (List Int)) (left tear : Int) (st : Bool) (first many : Int) : Int × Int × List (List Int) × Int :=
  if okD L left tear st = false then (0, 0, [], 1)
  else if badArg L.length first many = true then (0, 0, [], 1)
  else if st = true then (0, 0, [], 410)
  else (first, many, recS ((L.take (first + many).toNat).drop first.toNat), 0)
end Go.Proofs.Ytfoojamabjpdpaa.Wal
