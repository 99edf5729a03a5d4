import Derived.Test.YtlgekbknebbnlaaCrcBits
namespace Go.Proofs.Ytlgekbknebbnlaa
open Go.Vc
set_option maxRecDepth 10000

/-! ### the sum as what is left of a division -/

def polyB : List Bool := [true, false, false, false, false, false, true, false, false, true, true, false, false, false, false, false, true, false, false, false, true, true, true, false, true, true, false, true, true, false, true, true, true]
def regBits (r : BitVec 32) : List Bool := (List.range 32).map r.getLsbD
def padB (L : List UInt8) : List Bool := bitsOf L ++ List.replicate 32 false
def regAt (L : List UInt8) (i : Nat) : BitVec 32 := runBits 4294967295#32 ((bitsOf L).take i) ^^^ ofBits (((padB L).drop i).take 32)
def midB (r : BitVec 32) (t : Bool) (k : Nat) : List Bool := (List.range 33).map fun j => (regBits r ++ [t]).getD j false ^^ (decide (j < k) && polyB.getD j false)

theorem polyB_bit : ∀ m : Fin 32, polyB.getD (m.val + 1) false = (3988292384#32).getLsbD m.val := by decide

theorem ofBits_append : ∀ (a b : List Bool), ofBits (a ++ b) = ofBits a ^^^ (ofBits b <<< a.length)
  | [], b => by simp [ofBits]
  | x :: a, b => by
    show (ofBits (a ++ b) <<< 1) ^^^ bit1 x = ((ofBits a <<< 1) ^^^ bit1 x) ^^^ (ofBits b <<< (a.length + 1))
    rw [ofBits_append a b, BitVec.shiftLeft_xor_distrib, BitVec.shiftLeft_add]
    rw [BitVec.xor_assoc, BitVec.xor_comm (ofBits b <<< a.length <<< 1), ← BitVec.xor_assoc]

theorem regBits_length (r : BitVec 32) : (regBits r).length = 32 := by simp [regBits]
theorem regBits_at (r : BitVec 32) {j : Nat} (h : j < 32) : (regBits r)[j]? = some (r.getLsbD j) := by simp [regBits, List.getElem?_range h]
theorem midB_length (r : BitVec 32) (t : Bool) (k : Nat) : (midB r t k).length = 33 := by simp [midB]
theorem midB_at (r : BitVec 32) (t : Bool) (k : Nat) {j : Nat} (h : j < 33) : (midB r t k)[j]? = some ((regBits r ++ [t]).getD j false ^^ (decide (j < k) && polyB.getD j false)) := by
  simp only [midB, List.getElem?_map, List.getElem?_range h, Option.map_some]

theorem midB_zero (r : BitVec 32) (t : Bool) : midB r t 0 = regBits r ++ [t] := by
  apply List.ext_getElem?
  intro j
  rcases Nat.lt_or_ge j 33 with h | h
  · rw [midB_at r t 0 h]
    have hl : j < (regBits r ++ [t]).length := by simp [regBits_length]; omega
    simp [List.getD_eq_getElem?_getD, List.getElem?_eq_getElem hl]
  · rw [List.getElem?_eq_none (by rw [midB_length]; omega), List.getElem?_eq_none (by simp [regBits_length]; omega)]

theorem midB_set (r : BitVec 32) (t : Bool) {k : Nat} (h : k < 33) : (midB r t k).set k ((regBits r ++ [t]).getD k false ^^ polyB.getD k false) = midB r t (k + 1) := by
  apply List.ext_getElem?
  intro j
  rcases Nat.lt_or_ge j 33 with hj | hj
  · rw [List.getElem?_set, midB_at r t (k + 1) hj, midB_at r t k hj, midB_length]
    by_cases e : k = j
    · subst e; simp [h]
    · simp only [e, if_false]
      have : decide (j < k) = decide (j < k + 1) := by simp; omega
      rw [this]
  · rw [List.getElem?_eq_none (by simp [midB_length]; omega), List.getElem?_eq_none (by rw [midB_length]; omega)]

theorem mid_bits (r : BitVec 32) (t : Bool) {j : Nat} (h : j < 33) : (regBits r ++ [t]).getD j false = (r.getLsbD j || (decide (j = 32) && t)) := by
  rw [List.getD_eq_getElem?_getD, List.getElem?_append, regBits_length]
  split
  · rename_i h1
    rw [regBits_at r h1]
    simp [show ¬ j = 32 by omega]
  · rename_i h1
    have : j = 32 := by omega
    subst this
    simp

theorem shl31_bit (t : Bool) (m : Nat) (h : m < 32) : (bit1 t <<< 31).getLsbD m = (decide (m = 31) && t) := by
  rw [BitVec.getLsbD_shiftLeft, bit1_bit]
  by_cases e : m = 31
  · subst e; simp
  · simp [e, show m < 31 by omega]

theorem regBits_next (r : BitVec 32) (t : Bool) (k : Nat) (hk : (k = 33 ∧ r.getLsbD 0 = true) ∨ (k = 0 ∧ r.getLsbD 0 = false)) : midB r t k = false :: regBits (stepB r ^^^ (bit1 t <<< 31)) := by
  apply List.ext_getElem?
  intro j
  rcases Nat.lt_or_ge j 33 with hj | hj
  · rw [midB_at r t k hj, mid_bits r t hj]
    cases j with
    | zero =>
      rcases hk with ⟨rfl, h0⟩ | ⟨rfl, h0⟩ <;> rw [h0] <;> simp [polyB]
    | succ m =>
      have hm : m < 32 := by omega
      have hp := polyB_bit ⟨m, hm⟩
      simp only at hp
      rw [List.getElem?_cons_succ, regBits_at _ hm, BitVec.getLsbD_xor, shl31_bit t m hm, hp]
      unfold stepB
      rcases hk with ⟨rfl, h0⟩ | ⟨rfl, h0⟩
      · rw [if_pos h0, BitVec.getLsbD_xor, BitVec.getLsbD_ushiftRight, Nat.add_comm 1 m]
        by_cases e : m = 31
        · subst e
          rw [BitVec.getLsbD_of_ge r (31 + 1) (by omega)]
          simp
        · simp [e, show m + 1 < 33 by omega]
      · rw [if_neg (by rw [h0]; simp), BitVec.getLsbD_ushiftRight, Nat.add_comm 1 m]
        by_cases e : m = 31
        · subst e
          rw [BitVec.getLsbD_of_ge r (31 + 1) (by omega)]
          simp
        · simp [e]
  · rw [List.getElem?_eq_none (by rw [midB_length]; omega), List.getElem?_eq_none (by simp [regBits_length]; omega)]

theorem padB_length (L : List UInt8) : (padB L).length = 8 * L.length + 32 := by simp [padB, bitsOf_length]

theorem runBits_one (s : BitVec 32) (q : Bool) : runBits s [q] = stepB (s ^^^ bit1 q) := rfl
theorem ofBits_cons (b : Bool) (r : List Bool) : ofBits (b :: r) = (ofBits r <<< 1) ^^^ bit1 b := rfl
theorem ofBits_one (b : Bool) : ofBits [b] = bit1 b := by simp [ofBits]
theorem regStep (s : BitVec 32) (q t : Bool) (Q : List Bool) (h : Q.length = 31) : runBits s [q] ^^^ ofBits (Q ++ [t]) = stepB (s ^^^ ofBits (q :: Q)) ^^^ (bit1 t <<< 31) := by
  rw [runBits_one, ofBits_append, ofBits_one, ofBits_cons, h, BitVec.xor_comm (ofBits Q <<< 1), ← BitVec.xor_assoc s, stepB_xor (s ^^^ bit1 q), stepB_even (a := ofBits Q <<< 1) (by simp), ofBits_half (by omega), BitVec.xor_assoc]

theorem regAt_succ (L : List UInt8) {i : Nat} {t : Bool} (h : i < 8 * L.length) (ht : (padB L)[i + 32]? = some t) : regAt L (i + 1) = stepB (regAt L i) ^^^ (bit1 t <<< 31) := by
  have hlen := padB_length L
  have hb : i < (bitsOf L).length := by rw [bitsOf_length]; exact h
  obtain ⟨q, hq⟩ : ∃ q, (bitsOf L)[i]? = some q := ⟨_, List.getElem?_eq_getElem hb⟩
  have hP : (padB L)[i]? = some q := by
    unfold padB
    rw [List.getElem?_append, if_pos hb, hq]
  have e1 : ((padB L).drop i).take 32 = q :: ((padB L).drop (i + 1)).take 31 := by
    have hlt : i < (padB L).length := by omega
    rw [List.drop_eq_getElem_cons hlt]
    rw [List.getElem?_eq_getElem hlt] at hP
    injection hP with hP
    rw [hP]; rfl
  have e2 : ((padB L).drop (i + 1)).take 32 = ((padB L).drop (i + 1)).take 31 ++ [t] := by
    rw [List.take_add_one]
    congr 1
    rw [List.getElem?_drop, show i + 1 + 31 = i + 32 by omega, ht]
    rfl
  have e3 : (bitsOf L).take (i + 1) = (bitsOf L).take i ++ [q] := by
    rw [List.take_add_one, hq]; rfl
  have hl31 : (((padB L).drop (i + 1)).take 31).length = 31 := by simp; omega
  unfold regAt
  rw [e1, e2, e3, runBits_append]
  exact regStep _ q t _ hl31

theorem regAt_end (L : List UInt8) : regAt L (8 * L.length) = crcAll 4294967295#32 L := by
  unfold regAt
  rw [List.take_of_length_le (by rw [bitsOf_length]; omega), ← crcAll_bits]
  have : ((padB L).drop (8 * L.length)).take 32 = List.replicate 32 false := by
    unfold padB
    rw [List.drop_left' (by rw [bitsOf_length])]
    simp
  rw [this]
  have : ofBits (List.replicate 32 false) = 0#32 := by decide
  rw [this, BitVec.xor_zero]

theorem regAt_zero (L : List UInt8) : regBits (regAt L 0) = ((padB L).take 32).map (fun b => !b) := by
  have hlen := padB_length L
  apply List.ext_getElem?
  intro j
  rcases Nat.lt_or_ge j 32 with hj | hj
  · rw [regBits_at _ hj]
    unfold regAt
    rw [List.take_zero, List.drop_zero, List.getElem?_map, List.getElem?_take, if_pos hj, BitVec.getLsbD_xor, ofBits_bit _ _ hj]
    have hlt : j < (padB L).length := by omega
    have h1 : (runBits 4294967295#32 []).getLsbD j = true := by
      have : ∀ j : Fin 32, (4294967295#32).getLsbD j.val = true := by decide
      exact this ⟨j, hj⟩
    rw [h1, List.getD_eq_getElem?_getD, List.getElem?_take, if_pos hj, List.getElem?_eq_getElem hlt]
    simp
  · rw [List.getElem?_eq_none (by rw [regBits_length]; omega), List.getElem?_eq_none (by simp; omega)]

/-- The list at the beginning of a round of the division. -/
def divAt (L : List UInt8) (i : Nat) : List Bool := List.replicate i false ++ (regBits (regAt L i) ++ (padB L).drop (i + 32))

theorem divAt_length (L : List UInt8) {i : Nat} (h : i ≤ 8 * L.length) : (divAt L i).length = 8 * L.length + 32 := by
  simp [divAt, regBits_length, padB_length]; omega

theorem divAt_zero (L : List UInt8) : divAt L 0 = ((padB L).take 32).map (fun b => !b) ++ (padB L).drop 32 := by
  unfold divAt
  rw [regAt_zero]; rfl

/-- Within a round, where the polynomial is taken off: k of its bits are. -/
def divMid (L : List UInt8) (i k : Nat) (t : Bool) : List Bool := List.replicate i false ++ (midB (regAt L i) t k ++ (padB L).drop (i + 33))

theorem divMid_zero (L : List UInt8) {i : Nat} {t : Bool} (ht : (padB L)[i + 32]? = some t) : divMid L i 0 t = divAt L i := by
  unfold divMid divAt
  rw [midB_zero, List.append_assoc]
  congr 2
  have hlt : i + 32 < (padB L).length := by
    rcases Nat.lt_or_ge (i + 32) (padB L).length with h | h
    · exact h
    · rw [List.getElem?_eq_none h] at ht; cases ht
  rw [List.drop_eq_getElem_cons hlt]
  rw [List.getElem?_eq_getElem hlt] at ht
  injection ht with ht
  rw [ht]; rfl

theorem divMid_next (L : List UInt8) {i k : Nat} {t : Bool} (h : i < 8 * L.length) (ht : (padB L)[i + 32]? = some t) (hk : (k = 33 ∧ (regAt L i).getLsbD 0 = true) ∨ (k = 0 ∧ (regAt L i).getLsbD 0 = false)) :
    divMid L i k t = divAt L (i + 1) := by
  unfold divMid divAt
  rw [regBits_next _ t k hk, ← regAt_succ L h ht, List.replicate_succ', List.append_assoc]
  rfl

theorem divMid_at (L : List UInt8) (i : Nat) {k m : Nat} (t : Bool) (hm : m < 33) : (divMid L i k t)[i + m]? = some ((regBits (regAt L i) ++ [t]).getD m false ^^ (decide (m < k) && polyB.getD m false)) := by
  unfold divMid
  rw [List.getElem?_append_right (by simp)]
  simp only [List.length_replicate, Nat.add_sub_cancel_left]
  rw [List.getElem?_append_left (by rw [midB_length]; exact hm), midB_at _ _ _ hm]

theorem divMid_set (L : List UInt8) (i : Nat) {k : Nat} (t : Bool) (hk : k < 33) : (divMid L i k t).set (i + k) ((regBits (regAt L i) ++ [t]).getD k false ^^ polyB.getD k false) = divMid L i (k + 1) t := by
  unfold divMid
  rw [List.set_append_right _ _ (by simp)]
  simp only [List.length_replicate, Nat.add_sub_cancel_left]
  rw [List.set_append_left _ _ (by rw [midB_length]; exact hk), midB_set _ _ hk]

theorem divAt_head (L : List UInt8) (i : Nat) : (divAt L i)[i]? = some ((regAt L i).getLsbD 0) := by
  unfold divAt
  rw [List.getElem?_append_right (by simp)]
  simp only [List.length_replicate, Nat.sub_self]
  rw [List.getElem?_append_left (by rw [regBits_length]; omega), regBits_at _ (by omega)]

theorem divAt_end (L : List UInt8) : (divAt L (8 * L.length)).drop (8 * L.length) = regBits (crcAll 4294967295#32 L) := by
  unfold divAt
  rw [List.drop_left' (by simp), regAt_end, List.drop_of_length_le (by rw [padB_length]; omega), List.append_nil]

theorem div_sum (L : List UInt8) : ~~~ (crcAll 4294967295#32 L) = crcSum L := by
  unfold crcSum
  apply BitVec.eq_of_getLsbD_eq
  intro i hi
  have : ∀ j : Fin 32, (4294967295#32).getLsbD j.val = true := by decide
  rw [BitVec.getLsbD_not, BitVec.getLsbD_xor, this ⟨i, hi⟩]
  simp [hi]

theorem acc_step (x : BitVec 32) (j : Nat) : x >>> j = (x >>> (j + 1)) * 2#32 + (bit1 (x.getLsbD j)) := by
  apply BitVec.eq_of_toNat_eq
  have hx := x.isLt
  have h2 : (bit1 (x.getLsbD j)).toNat = (x.toNat / 2 ^ j) % 2 := by
    rw [BitVec.getLsbD, Nat.testBit_eq_decide_div_mod_eq]
    by_cases h : x.toNat / 2 ^ j % 2 = 1
    · rw [decide_eq_true h, h]; rfl
    · have h0 : x.toNat / 2 ^ j % 2 = 0 := by omega
      rw [decide_eq_false h, h0]; rfl
  rw [BitVec.toNat_add, BitVec.toNat_mul, h2, BitVec.toNat_ushiftRight, BitVec.toNat_ushiftRight, Nat.shiftRight_eq_div_pow, Nat.shiftRight_eq_div_pow, Nat.pow_succ, ← Nat.div_div_eq_div_mul]
  have : x.toNat / 2 ^ j ≤ x.toNat := Nat.div_le_self _ _
  generalize x.toNat / 2 ^ j = y at *
  show y = (y / 2 * 2 % 4294967296 + y % 2) % 4294967296
  omega

end Go.Proofs.Ytlgekbknebbnlaa
