import Derived.Test.YtlgekbknebbnlaaCrc
namespace Go.Proofs.Ytlgekbknebbnlaa
open Go.Vc
set_option maxRecDepth 10000

theorem stepB_xor (a b : BitVec 32) : stepB (a ^^^ b) = stepB a ^^^ stepB b := by
  unfold stepB
  rw [BitVec.getLsbD_xor, BitVec.ushiftRight_xor_distrib]
  cases a.getLsbD 0 <;> cases b.getLsbD 0 <;> simp only [Bool.xor_false, Bool.false_xor, Bool.xor_true, Bool.xor_self, Bool.not_false, Bool.not_true, Bool.false_eq_true, if_true, if_false, Bool.true_xor]
  · rw [BitVec.xor_assoc]
  · rw [BitVec.xor_assoc, BitVec.xor_assoc, BitVec.xor_comm (b >>> 1)]
  · rw [BitVec.xor_assoc, ← BitVec.xor_assoc (3988292384#32), BitVec.xor_comm (3988292384#32), BitVec.xor_assoc (b >>> 1)]
    simp

theorem stepB_zero : stepB 0#32 = 0#32 := by decide

theorem stepB_ker {a : BitVec 32} (h : stepB a = 0#32) : a = 0#32 := by
  unfold stepB at h
  split at h
  · exfalso
    have h1 := congrArg (fun x => BitVec.getLsbD x 31) h
    simp only [BitVec.getLsbD_xor, BitVec.getLsbD_ushiftRight] at h1
    have h2 : a.getLsbD (1 + 31) = false := BitVec.getLsbD_of_ge _ _ (by omega)
    rw [h2] at h1
    revert h1
    decide
  · rename_i h0
    apply BitVec.eq_of_getLsbD_eq
    intro i hi
    simp only [BitVec.getLsbD_zero]
    cases i with
    | zero => simpa using h0
    | succ j =>
      have h1 := congrArg (fun x => BitVec.getLsbD x j) h
      simp only [BitVec.getLsbD_ushiftRight, BitVec.getLsbD_zero] at h1
      rw [Nat.add_comm]
      exact h1

theorem stepN_xor (k : Nat) (a b : BitVec 32) : stepN k (a ^^^ b) = stepN k a ^^^ stepN k b := by
  induction k with
  | zero => rfl
  | succ k ih => simp only [stepN, ih, stepB_xor]

theorem stepN_zero (k : Nat) : stepN k 0#32 = 0#32 := by
  induction k with
  | zero => rfl
  | succ k ih => simp only [stepN, ih, stepB_zero]

theorem stepN_ker {k : Nat} {a : BitVec 32} (h : stepN k a = 0#32) : a = 0#32 := by
  induction k with
  | zero => exact h
  | succ k ih => exact ih (stepB_ker h)

theorem stepN_add (j k : Nat) (a : BitVec 32) : stepN (j + k) a = stepN j (stepN k a) := by
  induction j with
  | zero => rw [Nat.zero_add]; rfl
  | succ j ih => rw [Nat.succ_add]; simp only [stepN, ih]

theorem stepB_even {a : BitVec 32} (h : a.getLsbD 0 = false) : stepB a = a >>> 1 := by
  unfold stepB; rw [h]; simp

/-- Four steps of what has nothing in its low four bits. -/
theorem stepN4_high (n : BitVec 32) : stepN 4 (n &&& 4294967280#32) = n >>> 4 := by
  have e1 : stepB (n &&& 4294967280#32) = (n &&& 4294967280#32) >>> 1 := stepB_even (by simp [BitVec.getLsbD_and])
  have e2 : stepB ((n &&& 4294967280#32) >>> 1) = (n &&& 4294967280#32) >>> 2 := by
    rw [stepB_even (by simp [BitVec.getLsbD_and, BitVec.getLsbD_ushiftRight]), ← BitVec.shiftRight_add]
  have e3 : stepB ((n &&& 4294967280#32) >>> 2) = (n &&& 4294967280#32) >>> 3 := by
    rw [stepB_even (by simp [BitVec.getLsbD_and, BitVec.getLsbD_ushiftRight]), ← BitVec.shiftRight_add]
  have e4 : stepB ((n &&& 4294967280#32) >>> 3) = (n &&& 4294967280#32) >>> 4 := by
    rw [stepB_even (by simp [BitVec.getLsbD_and, BitVec.getLsbD_ushiftRight]), ← BitVec.shiftRight_add]
  have e5 : (n &&& 4294967280#32) >>> 4 = n >>> 4 := by
    apply BitVec.eq_of_getLsbD_eq
    intro i hi
    simp only [BitVec.getLsbD_ushiftRight, BitVec.getLsbD_and]
    rcases Nat.lt_or_ge i 28 with h | h
    · have : (4294967280#32).getLsbD (4 + i) = true := by
        have hall : ∀ j : Fin 28, (4294967280#32).getLsbD (4 + j.val) = true := by decide
        exact hall ⟨i, h⟩
      rw [this]; simp
    · rw [BitVec.getLsbD_of_ge n (4 + i) (by omega)]; simp
  show stepB (stepB (stepB (stepB (n &&& 4294967280#32)))) = _
  rw [e1, e2, e3, e4, e5]

theorem bits_lo : ∀ i : Fin 32, (4294967280#32).getLsbD i.val = decide (4 ≤ i.val) := by decide
theorem bits_15 : ∀ i : Fin 8, (15#8).getLsbD i.val = decide (i.val < 4) := by decide

theorem xor_split (n : BitVec 32) (x : BitVec 8) (hx : x.toNat < 16) : n ^^^ x.setWidth 32 = BitVec.ofNat 32 (((n.setWidth 8) &&& 15#8) ^^^ x).toNat ^^^ (n &&& 4294967280#32) := by
  apply BitVec.eq_of_getLsbD_eq
  intro i hi
  have hb : (BitVec.ofNat 32 (((n.setWidth 8) &&& 15#8) ^^^ x).toNat).getLsbD i = (((n.setWidth 8) &&& 15#8) ^^^ x).getLsbD i := by
    rw [BitVec.getLsbD_ofNat]; simp [hi, BitVec.getLsbD]
  have hx4 : 4 ≤ i → x.getLsbD i = false := by
    intro h
    unfold BitVec.getLsbD
    exact Nat.testBit_lt_two_pow (Nat.lt_of_lt_of_le hx (Nat.pow_le_pow_right (n := 2) (by omega) h))
  rw [BitVec.getLsbD_xor, BitVec.getLsbD_xor, hb, BitVec.getLsbD_and, bits_lo ⟨i, hi⟩]
  simp only [BitVec.getLsbD_xor, BitVec.getLsbD_and, BitVec.getLsbD_setWidth]
  rcases Nat.lt_or_ge i 4 with h | h
  · have h15 := bits_15 ⟨i, by omega⟩
    simp only at h15
    rw [h15]
    simp [h, hi, show ¬ 4 ≤ i by omega, show i < 8 by omega]
  · rw [hx4 h]
    rcases Nat.lt_or_ge i 8 with h8 | h8
    · have h15 := bits_15 ⟨i, h8⟩
      simp only at h15
      rw [h15]
      simp [h, show ¬ i < 4 by omega]
    · simp [h, show ¬ i < 8 by omega]

theorem nib_eq (n : BitVec 32) (x : BitVec 8) (hx : x.toNat < 16) : nib n x = stepN 4 (n ^^^ x.setWidth 32) := by
  rw [xor_split n x hx, stepN_xor, stepN4_high]
  rfl

/-- A byte is eight steps. -/
theorem crcByte_eq (n : BitVec 32) (x : UInt8) : crcByte n x = stepN 8 (n ^^^ x.toBitVec.setWidth 32) := by
  have h4 : (x.toBitVec >>> 4).toNat < 16 := by
    have := x.toBitVec.isLt
    rw [BitVec.toNat_ushiftRight, Nat.shiftRight_eq_div_pow]
    omega
  unfold crcByte
  rw [nib_eq _ _ h4, nib_eq _ _ (and15_lt _)]
  have e1 : (x.toBitVec >>> 4).setWidth 32 = stepN 4 ((x.toBitVec.setWidth 32) &&& 4294967280#32) := by
    rw [stepN4_high]
    apply BitVec.eq_of_getLsbD_eq
    intro i hi
    simp only [BitVec.getLsbD_setWidth, BitVec.getLsbD_ushiftRight]
    rcases Nat.lt_or_ge (4 + i) 32 with h | h
    · simp [h, hi]
    · rw [BitVec.getLsbD_of_ge x.toBitVec (4 + i) (by omega)]; simp
  rw [e1, ← stepN_xor, ← stepN_add]
  congr 1
  rw [BitVec.xor_assoc]
  congr 1
  apply BitVec.eq_of_getLsbD_eq
  intro i hi
  rw [BitVec.getLsbD_xor, BitVec.getLsbD_and, bits_lo ⟨i, hi⟩]
  simp only [BitVec.getLsbD_setWidth, BitVec.getLsbD_and]
  rcases Nat.lt_or_ge i 8 with h8 | h8
  · have h15 := bits_15 ⟨i, h8⟩
    simp only at h15
    rw [h15]
    rcases Nat.lt_or_ge i 4 with h | h
    · simp [h, hi, show ¬ 4 ≤ i by omega]
    · simp [h, hi, show ¬ i < 4 by omega]
  · rw [BitVec.getLsbD_of_ge x.toBitVec i h8]; simp

theorem xor3_sum (x y z n m k : BitVec 32) : (x ^^^ y ^^^ z) ^^^ (n ^^^ m ^^^ k) = (x ^^^ n) ^^^ (y ^^^ m) ^^^ (z ^^^ k) := by
  apply BitVec.eq_of_getLsbD_eq
  intro i _
  simp only [BitVec.getLsbD_xor]
  cases x.getLsbD i <;> cases y.getLsbD i <;> cases z.getLsbD i <;> cases n.getLsbD i <;> cases m.getLsbD i <;> cases k.getLsbD i <;> rfl

def xor3 : List UInt8 → List UInt8 → List UInt8 → List UInt8
  | a :: A, b :: B, c :: C => (a ^^^ b ^^^ c) :: xor3 A B C
  | _, _, _ => []

theorem crcByte_xor3 (n m k : BitVec 32) (a b c : UInt8) : crcByte (n ^^^ m ^^^ k) (a ^^^ b ^^^ c) = crcByte n a ^^^ crcByte m b ^^^ crcByte k c := by
  rw [crcByte_eq, crcByte_eq, crcByte_eq, crcByte_eq, ← stepN_xor, ← stepN_xor]
  congr 1
  rw [← xor3_sum]
  congr 1

theorem crcAll_xor3 : ∀ (A B C : List UInt8) (n m k : BitVec 32), B.length = A.length → C.length = A.length → crcAll (n ^^^ m ^^^ k) (xor3 A B C) = crcAll n A ^^^ crcAll m B ^^^ crcAll k C
  | [], B, C, n, m, k, hb, hc => by
    have hB : B = [] := List.eq_nil_of_length_eq_zero hb
    have hC : C = [] := List.eq_nil_of_length_eq_zero hc
    subst hB hC; rfl
  | a :: A, [], C, n, m, k, hb, hc => by simp at hb
  | a :: A, b :: B, [], n, m, k, hb, hc => by simp at hc
  | a :: A, b :: B, c :: C, n, m, k, hb, hc => by
    have ih := crcAll_xor3 A B C (crcByte n a) (crcByte m b) (crcByte k c) (by simpa using hb) (by simpa using hc)
    show crcAll (crcByte (n ^^^ m ^^^ k) (a ^^^ b ^^^ c)) (xor3 A B C) = _
    rw [crcByte_xor3]
    exact ih

theorem crcSum_xor3 {A B C : List UInt8} (hb : B.length = A.length) (hc : C.length = A.length) : crcSum A ^^^ crcSum B ^^^ crcSum C = crcSum (xor3 A B C) := by
  unfold crcSum
  rw [← xor3_sum, ← crcAll_xor3 A B C _ _ _ hb hc]
  congr 1

end Go.Proofs.Ytlgekbknebbnlaa
