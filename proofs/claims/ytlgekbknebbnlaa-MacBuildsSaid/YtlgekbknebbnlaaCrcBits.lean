import Derived.Test.YtlgekbknebbnlaaCrcMath
namespace Go.Proofs.Ytlgekbknebbnlaa
open Go.Vc
set_option maxRecDepth 10000

/-! ### the sum, bit by bit -/

def bits8 (x : UInt8) : List Bool := (List.range 8).map fun k => x.toBitVec.getLsbD k
def bitsOf (L : List UInt8) : List Bool := L.flatMap bits8
def bit1 (b : Bool) : BitVec 32 := if b then 1#32 else 0#32
def runBits (n : BitVec 32) (bs : List Bool) : BitVec 32 := bs.foldl (fun s b => stepB (s ^^^ bit1 b)) n
def ofBits : List Bool → BitVec 32
  | [] => 0#32
  | b :: r => (ofBits r <<< 1) ^^^ bit1 b

theorem bit1_bit (b : Bool) (i : Nat) : (bit1 b).getLsbD i = (b && decide (i = 0)) := by
  cases b with
  | false => simp [bit1]
  | true =>
    simp only [bit1, if_true, Bool.true_and]
    by_cases h : i = 0
    · subst h; decide
    · simp [BitVec.getLsbD_one, h]

theorem getD_none {α : Type} {l : List α} {i : Nat} {d : α} (h : l.length ≤ i) : l.getD i d = d := by rw [List.getD_eq_getElem?_getD, List.getElem?_eq_none h]; rfl

theorem bit1_zero (b : Bool) : (bit1 b).getLsbD 0 = b := by rw [bit1_bit]; simp

theorem ofBits_bit : ∀ (bs : List Bool) (i : Nat), i < 32 → (ofBits bs).getLsbD i = bs.getD i false
  | [], i, _ => by simp [ofBits]
  | b :: r, 0, _ => by
    show ((ofBits r <<< 1) ^^^ bit1 b).getLsbD 0 = b
    rw [BitVec.getLsbD_xor, bit1_zero, BitVec.getLsbD_shiftLeft]
    simp
  | b :: r, i + 1, h => by
    have ih := ofBits_bit r i (by omega)
    simp only [ofBits, BitVec.getLsbD_xor, bit1_bit, BitVec.getLsbD_shiftLeft]
    simp [ih, h]

theorem ofBits_half {bs : List Bool} (h : bs.length ≤ 31) : (ofBits bs <<< 1) >>> 1 = ofBits bs := by
  apply BitVec.eq_of_getLsbD_eq
  intro i hi
  rw [BitVec.getLsbD_ushiftRight, BitVec.getLsbD_shiftLeft]
  rcases Nat.lt_or_ge i 31 with h1 | h1
  · simp [show 1 + i < 32 by omega]
  · rw [ofBits_bit _ _ hi, getD_none (by omega)]
    simp [show ¬ 1 + i < 32 by omega]

theorem runBits_eq : ∀ (bs : List Bool) (n : BitVec 32), bs.length ≤ 32 → runBits n bs = stepN bs.length (n ^^^ ofBits bs)
  | [], n, _ => by simp [runBits, ofBits, stepN]
  | b :: r, n, h => by
    have ih := runBits_eq r (stepB (n ^^^ bit1 b)) (by simp at h; omega)
    show runBits (stepB (n ^^^ bit1 b)) r = stepN (r.length + 1) _
    rw [ih, stepN_add]
    show stepN r.length _ = stepN r.length (stepB (n ^^^ ((ofBits r <<< 1) ^^^ bit1 b)))
    congr 1
    rw [BitVec.xor_comm (ofBits r <<< 1), ← BitVec.xor_assoc, stepB_xor (n ^^^ bit1 b)]
    congr 1
    rw [stepB_even (by simp), ofBits_half (by simp at h; omega)]

theorem ofBits_bits8 (x : UInt8) : ofBits (bits8 x) = x.toBitVec.setWidth 32 := by
  apply BitVec.eq_of_getLsbD_eq
  intro i hi
  rw [ofBits_bit _ _ hi, BitVec.getLsbD_setWidth]
  rcases Nat.lt_or_ge i 8 with h | h
  · simp [bits8, List.getD_eq_getElem?_getD, h, hi]
  · rw [getD_none (by simp [bits8]; omega), BitVec.getLsbD_of_ge _ _ h]; simp

theorem crcByte_bits (n : BitVec 32) (x : UInt8) : crcByte n x = runBits n (bits8 x) := by
  rw [runBits_eq _ _ (by simp [bits8]), ofBits_bits8, crcByte_eq]
  simp [bits8]

theorem runBits_append (n : BitVec 32) (a b : List Bool) : runBits n (a ++ b) = runBits (runBits n a) b := List.foldl_append

theorem crcAll_bits : ∀ (L : List UInt8) (n : BitVec 32), crcAll n L = runBits n (bitsOf L)
  | [], n => rfl
  | x :: L, n => by
    show crcAll (crcByte n x) L = runBits n (bits8 x ++ bitsOf L)
    rw [runBits_append, ← crcByte_bits, crcAll_bits L]

theorem bits8_length (x : UInt8) : (bits8 x).length = 8 := by simp [bits8]
theorem bitsOf_length : ∀ (L : List UInt8), (bitsOf L).length = 8 * L.length
  | [] => rfl
  | x :: L => by
    show (bits8 x ++ bitsOf L).length = _
    rw [List.length_append, bits8_length, bitsOf_length L, List.length_cons]
    omega

/-- The bit at a place. -/
def bitAt (L : List UInt8) (p : Nat) : Bool := (L.getD (p / 8) 0).toBitVec.getLsbD (p % 8)

theorem bitsOf_at : ∀ (L : List UInt8) (p : Nat), p < 8 * L.length → (bitsOf L)[p]? = some (bitAt L p)
  | [], p, h => by simp at h
  | x :: L, p, h => by
    show (bits8 x ++ bitsOf L)[p]? = _
    rw [List.getElem?_append, bits8_length]
    split
    · rename_i h8
      have e1 : p / 8 = 0 := by omega
      have e2 : p % 8 = p := by omega
      simp [bits8, bitAt, e1, e2, h8]
    · rename_i h8
      rw [bitsOf_at L (p - 8) (by simp at h; omega)]
      have e1 : p / 8 = (p - 8) / 8 + 1 := by omega
      have e2 : p % 8 = (p - 8) % 8 := by omega
      simp [bitAt, e1, e2]

theorem crcAll_xor2 (A B D : List UInt8) (n : BitVec 32) (hb : B.length = A.length) (hd : D.length = A.length) (h : ∀ p, p < 8 * A.length → bitAt D p = (bitAt A p ^^ bitAt B p)) :
    crcAll n A ^^^ crcAll n B = crcAll 0#32 D := by
  have key : ∀ (a b d : List Bool) (m k : BitVec 32), b.length = a.length → d.length = a.length → (∀ p, p < a.length → d.getD p false = (a.getD p false ^^ b.getD p false)) → runBits m a ^^^ runBits k b = runBits (m ^^^ k) d := by
    intro a
    induction a with
    | nil =>
      intro b d m k h1 h2 _
      rw [List.eq_nil_of_length_eq_zero h1, List.eq_nil_of_length_eq_zero h2]; rfl
    | cons x a ih =>
      intro b d m k h1 h2 h3
      cases b with
      | nil => simp at h1
      | cons y b =>
        cases d with
        | nil => simp at h2
        | cons z d =>
          have h0 := h3 0 (by simp)
          simp only [List.getD_cons_zero] at h0
          have := ih b d (stepB (m ^^^ bit1 x)) (stepB (k ^^^ bit1 y)) (by simpa using h1) (by simpa using h2) (fun p hp => by
            have := h3 (p + 1) (by simp; omega)
            simpa using this)
          show runBits (stepB (m ^^^ bit1 x)) a ^^^ runBits (stepB (k ^^^ bit1 y)) b = runBits (stepB (m ^^^ k ^^^ bit1 z)) d
          rw [this, ← stepB_xor]
          congr 2
          rw [h0]
          apply BitVec.eq_of_getLsbD_eq
          intro i _
          simp only [BitVec.getLsbD_xor, bit1_bit]
          cases m.getLsbD i <;> cases k.getLsbD i <;> cases x <;> cases y <;> simp
  rw [crcAll_bits, crcAll_bits, crcAll_bits]
  have := key (bitsOf A) (bitsOf B) (bitsOf D) n n (by rw [bitsOf_length, bitsOf_length, hb]) (by rw [bitsOf_length, bitsOf_length, hd]) (fun p hp => by
    rw [bitsOf_length] at hp
    simp only [List.getD_eq_getElem?_getD]
    rw [bitsOf_at A p hp, bitsOf_at B p (by omega), bitsOf_at D p (by omega)]
    simp [h p hp])
  rw [this, BitVec.xor_self]

theorem runBits_zeros : ∀ (k : Nat) (n : BitVec 32), runBits n (List.replicate k false) = stepN k n
  | 0, n => rfl
  | k + 1, n => by
    show runBits (stepB (n ^^^ bit1 false)) (List.replicate k false) = _
    rw [runBits_zeros k, stepN_add]
    show stepN k (stepB (n ^^^ 0#32)) = stepN k (stepB n)
    rw [BitVec.xor_zero]

/-- What differs in up to 32 bits in a row, but does, has another sum. -/
theorem crc_burst {A B : List UInt8} {at_ : Nat} {w : BitVec 32} (hb : B.length = A.length) (hat : at_ + 32 ≤ 8 * A.length) (hw : w ≠ 0#32)
    (h : ∀ p, p < 8 * A.length → bitAt B p = (bitAt A p ^^ (decide (at_ ≤ p) && w.getLsbD (p - at_)))) : crcSum A ≠ crcSum B := by
  intro e
  let D : List UInt8 := (List.range A.length).map fun j => A.getD j 0 ^^^ B.getD j 0
  have hD : D.length = A.length := by simp [D]
  have hDb : ∀ p, p < 8 * A.length → bitAt D p = (bitAt A p ^^ bitAt B p) := by
    intro p hp
    have h8 : p / 8 < A.length := by omega
    simp only [bitAt, D, List.getD_eq_getElem?_getD, List.getElem?_map, List.getElem?_range h8, Option.map_some, Option.getD_some]
    rw [← BitVec.getLsbD_xor]
    rfl
  have h1 := crcAll_xor2 A B D 4294967295#32 hb hD hDb
  have h2 : crcAll 4294967295#32 A = crcAll 4294967295#32 B := by
    have := congrArg (fun x => 4294967295#32 ^^^ x) e
    simp only [crcSum, ← BitVec.xor_assoc, BitVec.xor_self, BitVec.zero_xor] at this
    exact this
  rw [h2, BitVec.xor_self, crcAll_bits] at h1
  have hsplit : bitsOf D = List.replicate at_ false ++ ((List.range 32).map w.getLsbD ++ List.replicate (8 * A.length - at_ - 32) false) := by
    apply List.ext_getElem?
    intro p
    rcases Nat.lt_or_ge p (8 * A.length) with hp | hp
    · rw [bitsOf_at D p (by omega), hDb p hp, h p hp]
      rw [List.getElem?_append]
      simp only [List.length_replicate]
      split
      · rename_i hlt
        rw [List.getElem?_replicate, if_pos hlt]
        simp [show ¬ at_ ≤ p by omega]
      · rename_i hge
        rw [List.getElem?_append]
        simp only [List.length_map, List.length_range]
        split
        · rename_i h32
          rw [List.getElem?_map, List.getElem?_range h32]
          simp [show at_ ≤ p by omega]
        · rename_i h32
          rw [List.getElem?_replicate, if_pos (by omega), BitVec.getLsbD_of_ge w (p - at_) (by omega)]
          simp
    · rw [List.getElem?_eq_none (by rw [bitsOf_length]; omega), List.getElem?_eq_none (by simp; omega)]
  rw [hsplit, runBits_append, runBits_append, runBits_zeros, runBits_zeros, stepN_zero, runBits_eq _ _ (by simp)] at h1
  have h3 := stepN_ker (stepN_ker h1.symm)
  rw [BitVec.zero_xor] at h3
  apply hw
  rw [← h3]
  apply BitVec.eq_of_getLsbD_eq
  intro i hi
  rw [ofBits_bit _ _ hi]
  simp [List.getD_eq_getElem?_getD, List.getElem?_range hi]

end Go.Proofs.Ytlgekbknebbnlaa
