import Derived.Laws.BitsAllLaws
import Derived.IntWalk
/- Plain facts on byte lists, numbers in bytes and the checksum; no program in sight. -/
namespace Go.Proofs.Ytfoojamabjpdpaa.Wal
def N8 (l : List Int) : Prop := ∀ c ∈ l, 0 ≤ c ∧ c ≤ 255
theorem N8.take {l : List Int} (h : N8 l) (k : Nat) : N8 (l.take k) := fun c hc => h c (List.mem_of_mem_take hc)
theorem N8.drop {l : List Int} (h : N8 l) (k : Nat) : N8 (l.drop k) := fun c hc => h c (List.mem_of_mem_drop hc)
theorem N8.append {l m : List Int} (h : N8 l) (k : N8 m) : N8 (l ++ m) := fun c hc => (List.mem_append.1 hc).elim (h c) (k c)
theorem N8.getD {l : List Int} (h : N8 l) (k : Nat) : 0 ≤ l.getD k 0 ∧ l.getD k 0 ≤ 255 := by
  rw [List.getD_eq_getElem?_getD]
  cases hx : l[k]? with
  | none => simp
  | some x => exact h x (List.mem_of_getElem? hx)

theorem snoc_ind {α : Type} {P : List α → Prop} (h0 : P []) (h1 : ∀ l c, P l → P (l ++ [c])) (l : List α) : P l := by
  rw [← List.reverse_reverse l]
  induction l.reverse with
  | nil => exact h0
  | cons c m ih => rw [List.reverse_cons]; exact h1 _ _ ih

def num (l : List Int) : Int := l.foldl (fun n c => n * 256 + c) 0
theorem num_nil : num [] = 0 := rfl
theorem num_snoc (l : List Int) (c : Int) : num (l ++ [c]) = num l * 256 + c := by simp [num]
theorem num_bd (l : List Int) (h : N8 l) : 0 ≤ num l ∧ num l < 256 ^ l.length := by
  revert h
  refine snoc_ind (P := fun l => N8 l → 0 ≤ num l ∧ num l < 256 ^ l.length) (fun _ => by simp [num]) (fun l c ih h => ?_) l
  obtain ⟨h1, h2⟩ := ih (fun x hx => h x (List.mem_append_left _ hx))
  have hc := h c (by simp)
  rw [num_snoc, List.length_append, List.length_singleton, Int.pow_succ]
  generalize (256 : Int) ^ l.length = p at *
  omega

theorem pow256_le {n m : Nat} (h : n ≤ m) : (256 : Int) ^ n ≤ 256 ^ m := by
  induction h with
  | refl => exact Int.le_refl _
  | step h ih =>
    have : (0 : Int) < 256 ^ n := Int.pow_pos (by omega)
    rw [Int.pow_succ]
    omega
theorem num_lt (l : List Int) (h : N8 l) {k : Nat} (hk : l.length ≤ k) : 0 ≤ num l ∧ num l < 256 ^ k := by
  have := num_bd l h
  have := pow256_le hk
  omega

def crcBit (n : Int) : Int := if n % 2 = 1 then Go.bits .xor .u32 (n / 2) 3988292384 else n / 2
def crcBits : Nat → Int → Int
  | 0, n => n
  | k + 1, n => crcBits k (crcBit n)
theorem crcBits_succ (k : Nat) (n : Int) : crcBits (k + 1) n = crcBit (crcBits k n) := by
  induction k generalizing n with
  | zero => rfl
  | succ k ih => rw [crcBits, ih]; rfl
def crcByte (n c : Int) : Int := crcBits 8 (Go.bits .xor .u32 n c)
def crcRun (l : List Int) : Int := l.foldl crcByte 4294967295
def crc (l : List Int) : Int := Go.bits .xor .u32 (crcRun l) 4294967295
theorem crcRun_snoc (l : List Int) (c : Int) : crcRun (l ++ [c]) = crcByte (crcRun l) c := by simp [crcRun]

theorem xor_bd (a b : Int) : 0 ≤ Go.bits .xor .u32 a b ∧ Go.bits .xor .u32 a b < 4294967296 := by
  show 0 ≤ IntKind.u32.wrap _ ∧ IntKind.u32.wrap _ < _
  rw [IntKind.wrap_u32']
  omega
theorem xor_comm (a b : Int) : Go.bits .xor .u32 a b = Go.bits .xor .u32 b a := by
  show IntKind.u32.wrap (BitVec.ofInt 32 a ^^^ BitVec.ofInt 32 b).toNat = IntKind.u32.wrap (BitVec.ofInt 32 b ^^^ BitVec.ofInt 32 a).toNat
  rw [BitVec.xor_comm]
theorem crcBit_bd (n : Int) (h : 0 ≤ n ∧ n < 4294967296) : 0 ≤ crcBit n ∧ crcBit n < 4294967296 := by
  unfold crcBit
  split
  · exact xor_bd _ _
  · omega
theorem crcBits_bd (k : Nat) (n : Int) (h : 0 ≤ n ∧ n < 4294967296) : 0 ≤ crcBits k n ∧ crcBits k n < 4294967296 := by
  induction k generalizing n with
  | zero => exact h
  | succ k ih => exact ih _ (crcBit_bd n h)
theorem crcByte_bd (n c : Int) : 0 ≤ crcByte n c ∧ crcByte n c < 4294967296 := crcBits_bd _ _ (xor_bd _ _)
theorem crcRun_bd (l : List Int) : 0 ≤ crcRun l ∧ crcRun l < 4294967296 := by
  refine snoc_ind (P := fun l => 0 ≤ crcRun l ∧ crcRun l < 4294967296) (by simp [crcRun]) (fun l c _ => ?_) l
  rw [crcRun_snoc]; exact crcByte_bd _ _
theorem crc_bd (l : List Int) : 0 ≤ crc l ∧ crc l < 4294967296 := xor_bd _ _

/-- One bit, as the program spells it. -/
theorem crcBit_mul (n : Int) (h : 0 ≤ n ∧ n < 4294967296) :
    Go.bits .xor .u32 (n / 2) (IntKind.u32.wrap (3988292384 * Go.bits .and .u32 n 1)) = crcBit n := by
  have ha : Go.bits .and .u32 n 1 = n % 2 := by
    rw [u32_and n 1 h.1 h.2 (by omega) (by omega)]
    show ((n.toNat &&& 1 : Nat) : Int) = _
    rw [nat_mask1]
    omega
  rw [ha, IntKind.wrap_u32', crcBit]
  by_cases hn : n % 2 = 1
  · rw [hn, if_pos rfl]; rfl
  · rw [if_neg hn, show n % 2 = 0 by omega]
    show Go.bits .xor .u32 (n / 2) 0 = _
    rw [u32_xor (n / 2) 0 (by omega) (by omega) (by omega) (by omega)]
    show ((((n / 2).toNat ^^^ 0 : Nat)) : Int) = _
    rw [Nat.xor_zero]
    omega
/-- A byte behind a number, as the program spells it. -/
theorem or_byte (n c : Int) (hn : 0 ≤ n ∧ n < 72057594037927936) (hc : 0 ≤ c ∧ c ≤ 255) :
    Go.bits .or .u64 (IntKind.u64.wrap (n * 256)) (IntKind.u64.wrap c) = n * 256 + c := by
  rw [IntKind.wrap_u64, IntKind.wrap_u64, show n * 256 % 18446744073709551616 = n * 256 by omega, show c % 18446744073709551616 = c by omega]
  rw [u64_or _ _ (by omega) (by omega) (by omega) (by omega), nat_join 8 _ _ (by omega) (by omega)]
  omega
/-- An element, under a name that no walk lays open. -/
def gd (l : List Int) (k : Nat) : Int := l.getD k 0
theorem N8.gd {l : List Int} (h : N8 l) (k : Nat) : 0 ≤ gd l k ∧ gd l k ≤ 255 := h.getD k
theorem take_gd (l : List Int) (k : Nat) (h : k < l.length) : l.take (k + 1) = l.take k ++ [gd l k] := by
  rw [List.take_succ_eq_append_getElem h, gd, List.getD_eq_getElem?_getD, List.getElem?_eq_getElem h, Option.getD_some]
end Go.Proofs.Ytfoojamabjpdpaa.Wal
namespace Go.Proofs.Ytfoojamabjpdpaa.Wal
/-- A row of rows: an element. -/
def gl (L : List (List Int)) (k : Nat) : List Int := L.getD k []
theorem gl_mem (L : List (List Int)) (k : Nat) (h : k < L.length) : gl L k ∈ L := by
  rw [gl, List.getD_eq_getElem?_getD, List.getElem?_eq_getElem h, Option.getD_some]; exact List.getElem_mem h
theorem gl_eq (L : List (List Int)) (k : Nat) (h : k < L.length) : gl L k = L[k] := by
  rw [gl, List.getD_eq_getElem?_getD, List.getElem?_eq_getElem h, Option.getD_some]
theorem mem_gl (L : List (List Int)) (s : List Int) (h : s ∈ L) : ∃ k, k < L.length ∧ gl L k = s := by
  obtain ⟨k, hk, e⟩ := List.getElem_of_mem h
  exact ⟨k, hk, by rw [gl_eq L k hk]; exact e⟩
theorem take_gl (L : List (List Int)) (k : Nat) (h : k < L.length) : L.take (k + 1) = L.take k ++ [gl L k] := by
  rw [List.take_succ_eq_append_getElem h, gl_eq L k h]
/-- All sectors have 128 bytes. -/
def all128 (L : List (List Int)) : Bool := L.all fun s => s.length == 128
theorem all128_iff (L : List (List Int)) : all128 L = true ↔ ∀ k, k < L.length → (gl L k).length = 128 := by
  rw [all128, List.all_eq_true]
  constructor
  · intro h k hk
    simpa using h _ (gl_mem L k hk)
  · intro h s hs
    obtain ⟨k, hk, rfl⟩ := mem_gl L s hs
    simpa using h k hk
/-- What disk.Check accepts. -/
def okD (L : List (List Int)) (left tear : Int) (st : Bool) : Bool :=
  decide (1 ≤ L.length) && decide (L.length ≤ 4096) && decide (-1 ≤ left) && decide (0 ≤ tear) && decide (tear ≤ 128) && (!st || left == 0) && all128 L
def ckD (L : List (List Int)) (left tear : Int) (st : Bool) : Int := if okD L left tear st then 0 else 1
end Go.Proofs.Ytfoojamabjpdpaa.Wal
namespace Go.Proofs.Ytfoojamabjpdpaa.Wal
/-- few's count. -/
def cnt (L : List (List Int)) : Int := L.foldl (fun n b => n + (1 + (b.length : Int))) 0
theorem cnt_snoc (L : List (List Int)) (b : List Int) : cnt (L ++ [b]) = cnt L + (1 + (b.length : Int)) := by simp [cnt]
end Go.Proofs.Ytfoojamabjpdpaa.Wal
namespace Go.Proofs.Ytfoojamabjpdpaa.Wal
/-- What put does: the byte of weight 256^i goes to place m - 1 - i behind lo; the first k rounds. -/
def putR (L : List Int) (lo m : Nat) (n : Int) : Nat → List Int
  | 0 => L
  | k + 1 => (putR L lo m n k).set (lo + (m - 1 - k)) (n / 256 ^ k % 256)
theorem putR_length (L : List Int) (lo m : Nat) (n : Int) (k : Nat) : (putR L lo m n k).length = L.length := by
  induction k with
  | zero => rfl
  | succ k ih => rw [putR, List.length_set, ih]
end Go.Proofs.Ytfoojamabjpdpaa.Wal

namespace Go.Proofs.Ytfoojamabjpdpaa.Wal
/-- The steps of a sector's making. -/
def D2 (gn k : Int) : List Int := putR (putR (List.replicate 128 0) 0 4 gn 4) 8 2 k 2
def D3 (gn k kd : Int) (n : Nat) : List Int := ((D2 gn k).set 10 kd).set 11 (n : Int)
def D4 (gn k kd : Int) (b : List Int) : List Int := (D3 gn k kd b.length).take 12 ++ b ++ (D3 gn k kd b.length).drop (12 + b.length)
def D5 (gn k kd : Int) (b : List Int) : List Int := putR (D4 gn k kd b) 124 4 gn 4
def D6 (gn k kd : Int) (b : List Int) : List Int := putR (D5 gn k kd b) 4 4 (crc (((D5 gn k kd b).take 124).drop 8)) 4
theorem D2_length (gn k : Int) : (D2 gn k).length = 128 := by rw [D2, putR_length, putR_length]; rfl
theorem D3_length (gn k kd : Int) (n : Nat) : (D3 gn k kd n).length = 128 := by rw [D3, List.length_set, List.length_set, D2_length]
theorem D4_length (gn k kd : Int) (b : List Int) (h : b.length ≤ 112) : (D4 gn k kd b).length = 128 := by
  simp only [D4, List.length_append, List.length_take, List.length_drop, D3_length]; omega
theorem D5_length (gn k kd : Int) (b : List Int) (h : b.length ≤ 112) : (D5 gn k kd b).length = 128 := by rw [D5, putR_length, D4_length _ _ _ _ h]
theorem N8.set {l : List Int} (h : N8 l) (i : Nat) {v : Int} (hv : 0 ≤ v ∧ v ≤ 255) : N8 (l.set i v) := fun c hc => by
  rcases List.mem_or_eq_of_mem_set hc with hc | rfl
  · exact h c hc
  · exact hv
theorem putR_n8 {L : List Int} (h : N8 L) (lo m : Nat) (n : Int) (k : Nat) : N8 (putR L lo m n k) := by
  induction k with
  | zero => exact h
  | succ k ih => exact ih.set _ (by omega)
theorem zeros_n8 (n : Nat) : N8 (List.replicate n 0) := fun c hc => by rw [(List.mem_replicate.1 hc).2]; omega
theorem D2_n8 (gn k : Int) : N8 (D2 gn k) := putR_n8 (putR_n8 (zeros_n8 _) _ _ _ _) _ _ _ _
theorem D3_n8 (gn k kd : Int) (n : Nat) (hn : n ≤ 255) (hkd : 0 ≤ kd ∧ kd ≤ 255) : N8 (D3 gn k kd n) := ((D2_n8 gn k).set _ hkd).set _ (by omega)
theorem D4_n8 (gn k kd : Int) (b : List Int) (hb : N8 b) (h : b.length ≤ 112) (hkd : 0 ≤ kd ∧ kd ≤ 255) : N8 (D4 gn k kd b) :=
  (((D3_n8 gn k kd _ (by omega) hkd).take _).append hb).append ((D3_n8 gn k kd _ (by omega) hkd).drop _)
theorem D5_n8 (gn k kd : Int) (b : List Int) (hb : N8 b) (h : b.length ≤ 112) (hkd : 0 ≤ kd ∧ kd ≤ 255) : N8 (D5 gn k kd b) := putR_n8 (D4_n8 gn k kd b hb h hkd) _ _ _ _
theorem D6_n8 (gn k kd : Int) (b : List Int) (hb : N8 b) (h : b.length ≤ 112) (hkd : 0 ≤ kd ∧ kd ≤ 255) : N8 (D6 gn k kd b) := putR_n8 (D5_n8 gn k kd b hb h hkd) _ _ _ _
theorem D6_length (gn k kd : Int) (b : List Int) (h : b.length ≤ 112) : (D6 gn k kd b).length = 128 := by rw [D6, putR_length, D5_length _ _ _ _ h]

/-! The sector, in its parts. -/
def be4 (n : Int) : List Int := [n / 16777216 % 256, n / 65536 % 256, n / 256 % 256, n % 256]
def be2 (n : Int) : List Int := [n / 256 % 256, n % 256]
def bodyS (k kd : Int) (b : List Int) : List Int := be2 k ++ ([kd, (b.length : Int)] ++ (b ++ List.replicate (112 - b.length) 0))
def encS (gn k kd : Int) (b : List Int) : List Int := be4 gn ++ (be4 (crc (bodyS k kd b)) ++ (bodyS k kd b ++ be4 gn))
theorem putR4 (X Y : List Int) (n : Int) (lo : Nat) (h : X.length = lo) (a b c d : Int) : putR (X ++ ([a, b, c, d] ++ Y)) lo 4 n 4 = X ++ (be4 n ++ Y) := by
  subst h
  simp only [putR, Nat.reduceSub, Nat.add_zero, Int.reducePow, Int.ediv_one]
  rw [List.set_append_right _ _ (by omega), List.set_append_right _ _ (by omega), List.set_append_right _ _ (by omega), List.set_append_right _ _ (by omega)]
  simp only [Nat.add_sub_cancel_left, Nat.sub_self]
  rfl
theorem putR2 (X Y : List Int) (n : Int) (lo : Nat) (h : X.length = lo) (a b : Int) : putR (X ++ ([a, b] ++ Y)) lo 2 n 2 = X ++ (be2 n ++ Y) := by
  subst h
  simp only [putR, Nat.reduceSub, Nat.add_zero, Int.reducePow, Int.ediv_one]
  rw [List.set_append_right _ _ (by omega), List.set_append_right _ _ (by omega)]
  simp only [Nat.add_sub_cancel_left, Nat.sub_self]
  rfl
theorem D3_eq (gn k kd : Int) (n : Nat) : D3 gn k kd n = be4 gn ++ ([0, 0, 0, 0] ++ (be2 k ++ ([kd, (n : Int)] ++ List.replicate 116 0))) := by
  have h1 : putR (List.replicate 128 0) 0 4 gn 4 = be4 gn ++ List.replicate 124 0 := by
    rw [show List.replicate 128 (0 : Int) = [] ++ ([0, 0, 0, 0] ++ List.replicate 124 0) from rfl, putR4 [] _ gn 0 rfl]; rfl
  have h2 : D2 gn k = be4 gn ++ ([0, 0, 0, 0] ++ (be2 k ++ List.replicate 118 0)) := by
    rw [D2, h1, show be4 gn ++ List.replicate 124 (0 : Int) = (be4 gn ++ [0, 0, 0, 0]) ++ ([0, 0] ++ List.replicate 118 0) by rw [List.append_assoc]; rfl, putR2 (be4 gn ++ [0, 0, 0, 0]) _ k 8 rfl, List.append_assoc]
  rw [D3, h2]
  rfl
theorem D6_eq (gn k kd : Int) (b : List Int) (h : b.length ≤ 112) : D6 gn k kd b = encS gn k kd b := by
  have h4 : D4 gn k kd b = be4 gn ++ ([0, 0, 0, 0] ++ (bodyS k kd b ++ [0, 0, 0, 0])) := by
    have e : List.replicate (116 - b.length) (0 : Int) = List.replicate (112 - b.length) 0 ++ [0, 0, 0, 0] := by
      rw [show 116 - b.length = (112 - b.length) + 4 by omega, ← List.replicate_append_replicate]; rfl
    rw [D4, D3_eq]
    have h5 : be4 gn ++ ([0, 0, 0, 0] ++ (be2 k ++ ([kd, (b.length : Int)] ++ List.replicate 116 0))) = (be4 gn ++ ([0, 0, 0, 0] ++ (be2 k ++ [kd, (b.length : Int)]))) ++ List.replicate 116 (0 : Int) := by
      simp only [List.append_assoc]
    rw [h5, List.take_left' (by rfl), ← List.drop_drop, List.drop_left' (by rfl), List.drop_replicate, e]
    simp only [bodyS, List.append_assoc]
  have hb : (bodyS k kd b).length = 116 := by simp [bodyS, be2]; omega
  have h5 : D5 gn k kd b = be4 gn ++ ([0, 0, 0, 0] ++ (bodyS k kd b ++ be4 gn)) := by
    rw [D5, h4]
    have := putR4 (be4 gn ++ ([0, 0, 0, 0] ++ bodyS k kd b)) [] gn 124 (by simp [be4, hb]) 0 0 0 0
    simpa only [List.append_assoc, List.append_nil] using this
  have h6 : ((D5 gn k kd b).take 124).drop 8 = bodyS k kd b := by
    have h7 : be4 gn ++ ([0, 0, 0, 0] ++ (bodyS k kd b ++ be4 gn)) = (be4 gn ++ [0, 0, 0, 0] ++ bodyS k kd b) ++ be4 gn := by simp only [List.append_assoc]
    rw [h5, h7, List.take_left' (by simp [be4, hb]), List.drop_left' (by rfl)]
  rw [D6, h6, h5, putR4 (be4 gn) _ _ 4 rfl]
  rfl
end Go.Proofs.Ytfoojamabjpdpaa.Wal
