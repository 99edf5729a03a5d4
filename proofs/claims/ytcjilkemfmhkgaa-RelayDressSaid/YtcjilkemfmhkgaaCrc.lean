import Derived.Test.YtcjilkemfmhkgaaEnv
import Derived.Test.YtcjilkemfmhkgaaLib
namespace Go.Proofs.Ytcjilkemfmhkgaa
open Go.Vc
set_option maxRecDepth 10000

/-! ### crc: one bit, four bits -/

def stepB (n : BitVec 32) : BitVec 32 := if n.getLsbD 0 then (n >>> 1) ^^^ 3988292384#32 else n >>> 1

def stepN : Nat → BitVec 32 → BitVec 32
  | 0, n => n
  | k + 1, n => stepB (stepN k n)

def tab (j : Nat) : BitVec 32 := stepN 4 (BitVec.ofNat 32 j)

def tabAt (i j : Nat) : Value := .int .u32 ((if j < i then tab j else 0#32).toNat : Nat)
def tabCells (i : Nat) : List Value := (List.range 16).map (tabAt i)

theorem tabCells_set {i : Nat} (hi : i < 16) : (tabCells i).set i (.int .u32 (tab i).toNat) = tabCells (i + 1) := by
  apply List.ext_getElem?
  intro j
  simp only [tabCells, List.getElem?_set, List.length_map, List.length_range, List.getElem?_map]
  by_cases h : j < 16
  · rw [List.getElem?_range h]
    by_cases e : i = j
    · subst e; simp [tabAt, hi]
    · simp only [e, if_false, Option.map_some, tabAt]
      have : (j < i) = (j < i + 1) := by simp; omega
      simp only [this]
  · rw [List.getElem?_eq_none (by simp; omega)]
    simp; omega

theorem low_bit (n : BitVec 32) : bAnd .u32 n.toNat 1 = (if n.getLsbD 0 then 1 else 0 : Int) := by
  have h1 : bAnd .u32 n.toNat 1 = ((n.toNat % 2 : Nat) : Int) := by
    have := bAnd32 n 1#32
    rw [show ((1#32).toNat : Int) = 1 by rfl, BitVec.toNat_and, show (1#32).toNat = 1 by rfl, Nat.and_one_is_mod] at this
    exact this
  have h2 : n.getLsbD 0 = decide (n.toNat % 2 = 1) := by simp [BitVec.getLsbD, Nat.testBit_zero]
  rw [h1, h2]
  by_cases h : n.toNat % 2 = 1
  · simp [h]
  · have : n.toNat % 2 = 0 := by omega
    simp [this]

theorem rows_call (h : Heap) : CallK Try.prog 59 #[] h fun v h' => v = .agg (tabCells 16).toArray ∧ Keep (fun _ => False) h h' := by
  refine CallK.of_vc EE_ok [0, 1, 2, 3, 4, 5, 9, 10, 13] (args := []) Try.func59 rfl (Nat.le_of_ble_eq_true rfl) ?_
  conv => whnf
  intro b0 h1 hn0
  conv => whnf
  intro b1 h2 hn1
  have k2 := ((Keep.refl _ h).new hn0).new hn1
  have hg1 := hn1.get
  have hg0 := hn1.got hn0.get
  have ne : ¬ b1 = b0 := by have := hn1.at_; have := lt_of_get hn0.get; omega
  have hb0 : h.size ≤ b0 := by have := hn0.at_; omega
  have hb1 : h.size ≤ b1 := by have := hn1.at_; have := hn0.size; omega
  conv => whnf
  refine ⟨Nat, [0, 1], fun i => [(4, .int .i64 (i : Nat))], fun i h' => i ≤ 16 ∧ Keep (fun _ => False) h h' ∧ h'[b1]? = some (.cells (tabCells i).toArray 111 (0, 0)) ∧ h'[b0]? = some (.cells (tabCells 0).toArray 111 (0, 0)),
    fun i => 16 - i, ?_⟩
  conv => whnf
  refine ⟨⟨0, ⟨rfl, trivial⟩, by omega, k2, hg1, hg0⟩, ?_⟩
  rintro i h3 ⟨i16, k3, hg1, hg0⟩
  conv => whnf
  refine iteD (fun t => ?_) (fun t => ?_)
  · have wi : IntKind.u32.wrap (i : Int) = ((BitVec.ofNat 32 i).toNat : Int) := by rw [wrap_nat32]; simp
    conv => whnf
    refine ⟨Nat, [0, 1, 2, 4, 5], fun k => [(9, .int .i64 (k : Nat)), (3, .int .u32 ((stepN k (BitVec.ofNat 32 i)).toNat : Nat))], fun k h' => k ≤ 4 ∧ h' = h3, fun k => 4 - k, ?_⟩
    conv => whnf
    refine ⟨⟨0, ⟨rfl, (by show Value.int .u32 _ = _; rw [wi]; rfl), trivial⟩, by omega, rfl⟩, ?_⟩
    rintro k h4 ⟨k4, rfl⟩
    conv => whnf
    refine iteD (fun u => ?_) (fun u => ?_)
    · have wk : IntKind.i64.wrap ((k : Int) + 1) = ((k + 1 : Nat) : Int) := by rw [wrap64_id (by omega) (by omega)]; omega
      have hst : stepN (k + 1) (BitVec.ofNat 32 i) = stepB (stepN k (BitVec.ofNat 32 i)) := rfl
      conv => whnf
      generalize stepN k (BitVec.ofNat 32 i) = n at *
      rw [low_bit]
      refine iteE (fun e => ?_) (fun e => ?_)
      · have hb : n.getLsbD 0 = true := by
          cases hb : n.getLsbD 0 with
          | true => rfl
          | false => rw [hb] at e; simp at e
        conv => whnf
        refine ⟨k + 1, ⟨?_, ?_, trivial⟩, ⟨rfl, rfl, rfl, rfl, rfl, trivial⟩, ⟨by omega, rfl⟩, by show 4 - (k + 1) < 4 - k; omega⟩
        · show Value.int .i64 _ = _; rw [wk]
        · show Value.int .u32 (bXor .u32 (bShr .u32 n.toNat ((1 : Nat) : Int)) ((3988292384#32).toNat : Nat)) = _
          rw [bShr_bv (by rfl), bXor32, hst, stepB, if_pos hb]
      · have hb : ¬ n.getLsbD 0 = true := by
          intro hb; rw [hb] at e; simp at e
        conv => whnf
        refine ⟨k + 1, ⟨?_, ?_, trivial⟩, ⟨rfl, rfl, rfl, rfl, rfl, trivial⟩, ⟨by omega, rfl⟩, by show 4 - (k + 1) < 4 - k; omega⟩
        · show Value.int .i64 _ = _; rw [wk]
        · show Value.int .u32 (bShr .u32 n.toNat ((1 : Nat) : Int)) = _
          rw [bShr_bv (by rfl), hst, stepB, if_neg hb]
    · obtain rfl : k = 4 := by omega
      conv => whnf
      refine cnd_intro (by simp; omega) ?_
      conv => whnf
      refine StK.at_ hg1 (y := ⟨.int .u32, 1, 4, false, some (.int .u32 0)⟩) rfl rfl rfl rfl (o := i) (by show 0 + (i : Int).toNat * 1 = i; omega) (by simp [tabCells]; omega) fun h5 hu => ?_
      have hg5 := hu.get
      rw [show (stepN 4 (BitVec.ofNat 32 i)) = tab i from rfl, tabCells_set (by omega)] at hg5
      have wk : IntKind.i64.wrap ((i : Int) + 1) = ((i + 1 : Nat) : Int) := by rw [wrap64_id (by omega) (by omega)]; omega
      conv => whnf
      refine ⟨i + 1, ⟨?_, trivial⟩, ⟨rfl, rfl, trivial⟩, ⟨by omega, k3.upd hu hb1, hg5, hu.got hg0 (fun e => ne e.symm)⟩, by show 16 - (i + 1) < 16 - i; omega⟩
      show Value.int .i64 _ = _; rw [wk]
  · obtain rfl : i = 16 := by omega
    conv => whnf
    refine LdK.lit hg1 rfl ?_
    conv => whnf
    refine StK.lit hg0 rfl rfl rfl rfl fun h5 hu => ?_
    have hg5 := hu.get
    conv => whnf
    refine LdK.lit hg5 rfl ?_
    conv => whnf
    exact ⟨rfl, k3.upd hu hb0⟩

/-! ### crc: bytes -/

def nib (n : BitVec 32) (x : BitVec 8) : BitVec 32 := tab (((n.setWidth 8) &&& 15#8) ^^^ x).toNat ^^^ (n >>> 4)
def crcByte (n : BitVec 32) (x : UInt8) : BitVec 32 := nib (nib n (x.toBitVec &&& 15#8)) (x.toBitVec >>> 4)
def crcAll (n : BitVec 32) (L : List UInt8) : BitVec 32 := L.foldl crcByte n
def crcSum (L : List UInt8) : BitVec 32 := 4294967295#32 ^^^ crcAll 4294967295#32 L

theorem crcAll_append (n : BitVec 32) (L M : List UInt8) : crcAll n (L ++ M) = crcAll (crcAll n L) M := List.foldl_append

theorem and15_lt (a : BitVec 8) : (a &&& 15#8).toNat < 16 := by
  rw [BitVec.toNat_and]
  exact Nat.lt_of_le_of_lt Nat.and_le_right (by decide)

theorem nib_idx (n : BitVec 32) (x : BitVec 8) (hx : x.toNat < 16) : (((n.setWidth 8) &&& 15#8) ^^^ x).toNat < 16 := by
  rw [BitVec.toNat_xor]
  exact Nat.xor_lt_two_pow (n := 4) (and15_lt _) hx

theorem tabCells_at {j : Nat} (h : j < 16) : (tabCells 16)[j]? = some (.int .u32 ((tab j).toNat : Nat)) := by
  simp only [tabCells, List.getElem?_map, List.getElem?_range h, Option.map_some, tabAt, h, if_true]

theorem sum_call (h : Heap) (P : Option Addr) (k kc : Nat) (vs : List Value) (Ls : List (List UInt8)) (hk : vs.length = k) (hl : Ls.length = k) (hP : Row h P vs) (hp0 : P = none → k = 0) (hk1 : k ≤ 1000000000)
    (hv : ∀ (i : Nat) v L, vs[i]? = some v → Ls[i]? = some L → BytesV h v L ∧ L.length ≤ 1000000000) :
    CallK Try.prog 57 #[.slice P k kc] h fun v h' => v = .int .u32 ((crcSum Ls.flatten).toNat : Nat) ∧ Keep (fun _ => False) h h' := by
  refine CallK.of_vc EE_ok [0, 2, 3, 4, 6, 8, 10, 11, 12, 13, 16, 17, 18, 19] Try.func57 rfl (Nat.le_of_ble_eq_true rfl) ?_
  conv => whnf
  refine CallK.mono (rows_call h) ?_
  rintro _ h1 ⟨rfl, hk1⟩
  conv => whnf
  intro b h2 hn2
  conv => whnf
  refine StK.lit hn2.get rfl rfl rfl rfl fun h3 hu3 => ?_
  have k3 : Keep (fun _ => False) h h3 := (hk1.new hn2).upd hu3 (by have := hn2.at_; have := hk1.size; omega)
  have hb3 := hu3.get
  conv => whnf
  refine ⟨Nat, [0, 2, 3, 10, 11], fun i => [(12, .int .i64 (i : Nat)), (4, .int .u32 ((crcAll 4294967295#32 (Ls.take i).flatten).toNat : Nat))], fun i h' => i ≤ k ∧ h' = h3, fun i => k - i, ?_⟩
  conv => whnf
  refine ⟨⟨0, ⟨rfl, rfl, trivial⟩, by omega, rfl⟩, ?_⟩
  rintro i h4 ⟨ik, rfl⟩
  conv => whnf
  refine iteD (fun t => ?_) (fun t => ?_)
  · have hi : i < k := by omega
    obtain ⟨v, hvi⟩ : ∃ v, vs[i]? = some v := ⟨_, List.getElem?_eq_getElem (by omega)⟩
    obtain ⟨L, hLi⟩ : ∃ L, Ls[i]? = some L := ⟨_, List.getElem?_eq_getElem (by omega)⟩
    obtain ⟨hvb, hll⟩ := hv i v L hvi hLi
    obtain ⟨A, c, rfl, _, _, _⟩ := hvb.out
    have hvb := hvb.keep k3
    have hel := (hP.keep k3).at_ hvi
    obtain ⟨sb, so, rfl⟩ := hel.some
    conv => whnf
    refine cnd_intro (by simp; omega) ?_
    conv => whnf
    refine LdK.elem hel (y := ⟨.slice 5, 1, 24, false, some (.slice none 0 0)⟩) rfl (by show so + (i : Int).toNat * 1 = so + i; omega) (.inr ⟨_, rfl⟩) ?_
    conv => whnf
    refine ⟨Nat, [0, 2, 3, 6, 10, 11, 12, 13, 16, 17], fun j => [(18, .int .i64 (j : Nat)), (4, .int .u32 ((crcAll (crcAll 4294967295#32 (Ls.take i).flatten) (L.take j)).toNat : Nat))], fun j h' => j ≤ L.length ∧ h' = h4, fun j => L.length - j, ?_⟩
    conv => whnf
    refine ⟨⟨0, ⟨rfl, rfl, trivial⟩, by omega, rfl⟩, ?_⟩
    rintro j h5 ⟨jl, rfl⟩
    conv => whnf
    refine iteD (fun u => ?_) (fun u => ?_)
    · have hj : j < L.length := by omega
      have hLj : L[j]? = some L[j] := List.getElem?_eq_getElem hj
      have hel := hvb.at_ hLj
      obtain ⟨sb, so, rfl⟩ := hel.some
      have hst : crcAll (crcAll 4294967295#32 (Ls.take i).flatten) (L.take (j + 1)) = crcByte (crcAll (crcAll 4294967295#32 (Ls.take i).flatten) (L.take j)) L[j] := by
        rw [List.take_succ_eq_append_getElem hj, crcAll_append]; rfl
      generalize crcAll (crcAll 4294967295#32 (Ls.take i).flatten) (L.take j) = n at *
      generalize L[j] = x at *
      have wj : IntKind.i64.wrap ((j : Int) + 1) = ((j + 1 : Nat) : Int) := by rw [wrap64_id (by omega) (by omega)]; omega
      have q1 : bXor .u8 (bAnd .u8 (IntKind.u8.wrap (n.toNat : Int)) 15) (bAnd .u8 (x.toNat : Int) 15) = ((((n.setWidth 8) &&& 15#8) ^^^ (x.toBitVec &&& 15#8)).toNat : Int) := by
        rw [conv8]
        show bXor .u8 (bAnd .u8 ((n.setWidth 8).toNat : Int) ((15#8).toNat : Int)) (bAnd .u8 (x.toBitVec.toNat : Int) ((15#8).toNat : Int)) = _
        rw [bAnd8, bAnd8, bXor8]
      conv => whnf
      refine cnd_intro (by simp; omega) ?_
      conv => whnf
      refine LdK.elem hel (y := ⟨.int .u8, 1, 1, false, some (.int .u8 0)⟩) rfl (by show so + (j : Int).toNat * 1 = so + j; omega) (.inr ⟨_, rfl⟩) ?_
      conv => whnf
      rw [q1]
      have hi1 := nib_idx n (x.toBitVec &&& 15#8) (and15_lt _)
      refine cnd_intro (by simp only [Bool.and_eq_true, decide_eq_true_eq]; omega) ?_
      conv => whnf
      refine LdK.at_ hb3 (y := ⟨.int .u32, 1, 4, false, some (.int .u32 0)⟩) rfl rfl (o := (((n.setWidth 8) &&& 15#8) ^^^ (x.toBitVec &&& 15#8)).toNat) (by show 0 + ((((n.setWidth 8) &&& 15#8) ^^^ (x.toBitVec &&& 15#8)).toNat : Int).toNat * 1 = _; omega) (tabCells_at hi1) ?_
      have r1 : bXor .u32 ((tab (((n.setWidth 8) &&& 15#8) ^^^ (x.toBitVec &&& 15#8)).toNat).toNat : Int) (bShr .u32 (n.toNat : Int) 4) = ((nib n (x.toBitVec &&& 15#8)).toNat : Int) := by
        rw [show (4 : Int) = ((4 : Nat) : Int) by rfl, bShr_bv (by rfl), bXor32]; rfl
      conv => whnf
      rw [r1]
      have hst' : crcByte n x = nib (nib n (x.toBitVec &&& 15#8)) (x.toBitVec >>> 4) := rfl
      generalize nib n (x.toBitVec &&& 15#8) = n1 at *
      have q2 : bXor .u8 (bAnd .u8 (IntKind.u8.wrap (n1.toNat : Int)) 15) (bShr .u8 (x.toNat : Int) 4) = ((((n1.setWidth 8) &&& 15#8) ^^^ (x.toBitVec >>> 4)).toNat : Int) := by
        rw [conv8]
        show bXor .u8 (bAnd .u8 ((n1.setWidth 8).toNat : Int) ((15#8).toNat : Int)) (bShr .u8 (x.toBitVec.toNat : Int) ((4 : Nat) : Int)) = _
        rw [bAnd8, bShr_bv (by rfl), bXor8]
      have hx4 : (x.toBitVec >>> 4).toNat < 16 := by
        have := x.toBitVec.isLt
        rw [BitVec.toNat_ushiftRight, Nat.shiftRight_eq_div_pow]
        omega
      have hi2 := nib_idx n1 (x.toBitVec >>> 4) hx4
      rw [q2]
      refine cnd_intro (by simp only [Bool.and_eq_true, decide_eq_true_eq]; omega) ?_
      conv => whnf
      refine LdK.at_ hb3 (y := ⟨.int .u32, 1, 4, false, some (.int .u32 0)⟩) rfl rfl (o := (((n1.setWidth 8) &&& 15#8) ^^^ (x.toBitVec >>> 4)).toNat) (by show 0 + ((((n1.setWidth 8) &&& 15#8) ^^^ (x.toBitVec >>> 4)).toNat : Int).toNat * 1 = _; omega) (tabCells_at hi2) ?_
      have r2 : bXor .u32 ((tab (((n1.setWidth 8) &&& 15#8) ^^^ (x.toBitVec >>> 4)).toNat).toNat : Int) (bShr .u32 (n1.toNat : Int) 4) = ((nib n1 (x.toBitVec >>> 4)).toNat : Int) := by
        rw [show (4 : Int) = ((4 : Nat) : Int) by rfl, bShr_bv (by rfl), bXor32]; rfl
      conv => whnf
      rw [r2, ← hst', ← hst]
      refine ⟨j + 1, ⟨?_, rfl, trivial⟩, ⟨rfl, rfl, rfl, rfl, rfl, rfl, rfl, rfl, rfl, rfl, trivial⟩, ⟨by omega, rfl⟩, by show L.length - (j + 1) < L.length - j; omega⟩
      show Value.int .i64 _ = _; rw [wj]
    · obtain rfl : j = L.length := by omega
      have wi : IntKind.i64.wrap ((i : Int) + 1) = ((i + 1 : Nat) : Int) := by rw [wrap64_id (by omega) (by omega)]; omega
      have e2 : crcAll (crcAll 4294967295#32 (Ls.take i).flatten) (L.take L.length) = crcAll 4294967295#32 (Ls.take (i + 1)).flatten := by
        rw [List.take_of_length_le (Nat.le_refl _), ← crcAll_append]
        congr 1
        rw [List.take_add_one, hLi]
        simp
      rw [e2]
      conv => whnf
      refine ⟨i + 1, ⟨?_, rfl, trivial⟩, ⟨rfl, rfl, rfl, rfl, rfl, trivial⟩, ⟨by omega, rfl⟩, by show k - (i + 1) < k - i; omega⟩
      show Value.int .i64 _ = _; rw [wi]
  · obtain rfl : i = k := by omega
    have e1 : Ls.take i = Ls := List.take_of_length_le (by omega)
    conv => whnf
    refine ⟨?_, k3⟩
    rw [tup_one, e1]
    show Value.int .u32 (bXor .u32 ((4294967295#32).toNat : Int) _) = _
    rw [bXor32]
    rfl

def le4 (n : BitVec 32) : List UInt8 := [⟨n.setWidth 8⟩, ⟨(n >>> 8).setWidth 8⟩, ⟨(n >>> 16).setWidth 8⟩, ⟨(n >>> 24).setWidth 8⟩]

theorem le4_cells (n : BitVec 32) : (le4 n).map byteV = [.int .u8 (IntKind.u8.wrap (n.toNat : Int)), .int .u8 (IntKind.u8.wrap (bShr .u32 (n.toNat : Int) 8)), .int .u8 (IntKind.u8.wrap (bShr .u32 (n.toNat : Int) 16)), .int .u8 (IntKind.u8.wrap (bShr .u32 (n.toNat : Int) 24))] := by
  have h : ∀ k : Nat, bShr .u32 (n.toNat : Int) (k : Nat) = ((n >>> k).toNat : Int) := fun k => bShr_bv (by rfl) n k
  rw [show (8 : Int) = ((8 : Nat) : Int) by rfl, show (16 : Int) = ((16 : Nat) : Int) by rfl, show (24 : Int) = ((24 : Nat) : Int) by rfl, h, h, h, conv8, conv8, conv8, conv8]
  rfl

def sealL (L : List UInt8) : List UInt8 := L ++ le4 (crcSum L)

theorem sum1_call (h : Heap) (b : Nat) (v : Value) (L : List UInt8) {T : TypeId} {fz : Nat × Nat} (hb : h[b]? = some (.cells #[v] T fz)) (hv : BytesV h v L) (hl : L.length ≤ 1000000000) (kc : Nat) :
    CallK Try.prog 57 #[.slice (some ⟨b, 0, none⟩) 1 kc] h fun v h' => v = .int .u32 ((crcSum L).toNat : Nat) ∧ Keep (fun _ => False) h h' := by
  have := sum_call h (some ⟨b, 0, none⟩) 1 kc [v] [L] rfl rfl (Row.of_cells (l := [v]) hb (p := []) (q := []) rfl rfl) (fun x => by cases x) (by omega) (fun i v' L' h1 h2 => by
    cases i with
    | zero =>
      simp only [List.getElem?_cons_zero, Option.some.injEq] at h1 h2
      subst h1 h2
      exact ⟨hv, hl⟩
    | succ i => simp at h1)
  simpa using this

theorem seal_call (h : Heap) (v : Value) (L : List UInt8) (hv : BytesV h v L) (hl : L.length ≤ 100000000) :
    CallK Try.prog 44 #[v] h fun v' h' => OwnS h.size h' 5 1 v' (sealL L).length ((sealL L).map byteV) ∧ Keep (fun _ => False) h h' := by
  obtain ⟨A, c, rfl, hc, hr, h0⟩ := hv.out
  refine CallK.of_vc EE_ok [0, 2, 3, 4] Try.func44 rfl (Nat.le_of_ble_eq_true rfl) ?_
  conv => whnf
  refine FillK.row rfl ?_
  conv => whnf
  intro b h1 hn1
  have k1 := (Keep.refl (fun _ => False) h).new hn1
  conv => whnf
  refine CallK.mono (sum1_call h1 b _ L hn1.get (hv.keep k1) (by omega) 1) ?_
  rintro _ h2 ⟨rfl, hk2⟩
  have k2 := k1.and hk2
  have w0 : IntKind.i64.wrap ((L.length : Int) + 4) = ((L.length + 4 : Nat) : Int) := by rw [wrap64_id (by omega) (by omega)]; omega
  conv => whnf
  rw [w0]
  refine SemK.make1 EE_ok rfl rfl rfl rfl rfl rfl (by decide) (by omega) (by omega) (by decide) fun b3 h3 hn3 => ?_
  have k3 := k2.new hn3
  have hb3 : h.size ≤ b3 := by have := hn3.at_; have := k2.size; omega
  have o3 : OwnS h.size h3 5 1 (.slice (some ⟨b3, 0, none⟩) (Int.toNat 0) ((L.length + 4 : Nat) : Int).toNat) ([] : List UInt8).length (([] : List UInt8).map byteV) :=
    ⟨rfl, .inr ⟨b3, _, _, rfl, hb3, hn3.get, by simp; omega⟩⟩
  conv => whnf
  refine SemK.append_bytes EE_ok rfl rfl rfl rfl o3 (hv.keep k3) k3.size (by simp; omega) fun v4 h4 o4 kk4 hj4 => ?_
  have k4 := k3.after kk4 (fun k hk e => by have e : k = b3 := e; omega)
  conv => whnf
  refine FillK.row rfl ?_
  conv => whnf
  intro b5 h5 hn5
  have k5 := k4.new hn5
  conv => whnf
  have g5 := hn5.get
  have e5 : BytesV h5 (.slice (some ⟨b5, 0, none⟩) 4 4) (le4 (crcSum L)) := by
    refine ⟨some ⟨b5, 0, none⟩, 4, rfl, Nat.le_refl _, ?_, fun x => by cases x⟩
    rw [le4_cells]
    exact Row.of_cells g5 (p := []) (q := []) rfl rfl
  have o4' : OwnS h.size h5 5 1 v4 L.length (L.map byteV) := o4.keep (hn5.keep (S := fun _ => False)) fun _ _ f => f
  refine SemK.append_bytes EE_ok rfl rfl rfl rfl o4' e5 k5.size (by simp [le4]; omega) fun v6 h6 o6 kk6 hj6 => ?_
  have k6 := k5.after kk6 (fun k hk e => by
    have := o4.own e
    omega)
  conv => whnf
  exact ⟨o6, k6⟩

def openR (L : List UInt8) : Option (List UInt8) := if L = sealL (L.take (L.length - 4)) then some (L.take (L.length - 4)) else none

theorem open_eq {L : List UInt8} (h : 4 ≤ L.length) {a k1 k2 : Nat} (ha : a = L.length - 4) (h1 : k1 = (sealL (L.take (L.length - 4))).length - a) (h2 : k2 = L.length - a) :
    (((sealL (L.take (L.length - 4))).drop a).take k1 == (L.drop a).take k2) = decide (L = sealL (L.take (L.length - 4))) := by
  subst ha
  have hsl : (sealL (L.take (L.length - 4))).length = L.length := by simp [sealL, le4]; omega
  have e1 : ((sealL (L.take (L.length - 4))).drop (L.length - 4)).take k1 = le4 (crcSum (L.take (L.length - 4))) := by
    rw [List.take_of_length_le (by simp; omega)]
    exact List.drop_left' (by simp)
  have e2 : (L.drop (L.length - 4)).take k2 = L.drop (L.length - 4) := List.take_of_length_le (by simp; omega)
  rw [e1, e2]
  by_cases hh : L = sealL (L.take (L.length - 4))
  · rw [decide_eq_true hh, beq_iff_eq]
    have e3 : L.drop (L.length - 4) = (sealL (L.take (L.length - 4))).drop (L.length - 4) := by rw [← hh]
    rw [e3]
    exact (List.drop_left' (by simp)).symm
  · rw [decide_eq_false hh, beq_eq_false_iff_ne]
    intro e
    apply hh
    unfold sealL
    rw [e, List.take_append_drop]

theorem crcopen_call (h : Heap) (v : Value) (L : List UInt8) (hv : BytesV h v L) (hl : L.length ≤ 100000000) :
    CallK Try.prog 32 #[v] h fun v' h' => Keep (fun _ => False) h h' ∧ (if L.length < 4 then v' = .tuple #[.slice none 0 0, .int .i64 2] else match openR L with
      | none => v' = .tuple #[.slice none 0 0, .int .i64 10]
      | some M => ∃ A c, v' = .tuple #[.slice A M.length c, .int .i64 0] ∧ BytesV h' (.slice A M.length c) M) := by
  obtain ⟨A, c, rfl, hc, hr, h0⟩ := hv.out
  refine CallK.of_vc EE_ok [0, 2, 3, 4, 5, 8, 24] Try.func32 rfl (Nat.le_of_ble_eq_true rfl) ?_
  conv => whnf
  refine iteD (fun t => ?_) (fun t => ?_)
  · conv => whnf
    refine ⟨Keep.refl _ _, ?_⟩
    rw [if_pos (by omega)]; rfl
  · have hA : ∃ b o, A = some ⟨b, o, none⟩ := by
      rcases hr.out with e | ⟨b, o, _, _, _, e, _⟩
      · exact absurd (show (L.length : Int) < 4 by have := congrArg List.length e; simp at this; simp [this]) t
      · exact ⟨b, o, e⟩
    obtain ⟨bb, oo, rfl⟩ := hA
    have w4 : IntKind.i64.wrap ((L.length : Int) - 4) = ((L.length - 4 : Nat) : Int) := by rw [wrap64_id (by omega) (by omega)]; omega
    conv => whnf
    rw [w4]
    refine cnd_intro (by simp only [Bool.and_eq_true, decide_eq_true_eq]; omega) ?_
    conv => whnf
    have hM : BytesV h (.slice (cutA (some ⟨bb, oo, none⟩) 0 c 1) (((L.length - 4 : Nat) : Int).toNat - 0) (c - 0)) (L.take (L.length - 4)) :=
      hv.cut (l := 0) (hi := L.length - 4) (Nat.zero_le _) (by omega) (by omega) (by omega) rfl
    refine CallK.mono (seal_call h _ _ hM (by simp; omega)) ?_
    rintro s1 h1 ⟨ho, k1⟩
    have hS := BytesV.of_own ho
    obtain ⟨SA, sc, rfl, hsc, _, _⟩ := hS.out
    have hv1 := hv.keep k1
    have hsl : (sealL (L.take (L.length - 4))).length = L.length := by simp [sealL, le4]; omega
    have hSs := hS.some (by omega)
    obtain ⟨sb, so, rfl⟩ := hSs
    conv => whnf
    refine Drawn.mk (by kernel_rfl) ?_
    conv => whnf
    refine cnd_intro (by simp only [Bool.and_eq_true, decide_eq_true_eq]; omega) ?_
    conv => whnf
    have hS' := hS.cut (l := L.length - 4) (hi := L.length) (m := sc) (k := (sealL (L.take (L.length - 4))).length - ((L.length - 4 : Nat) : Int).toNat) (c' := sc - ((L.length - 4 : Nat) : Int).toNat) (by omega) (by omega) (by omega) (by omega) (by omega)
    have hY' := hv1.cut (l := L.length - 4) (hi := L.length) (m := c) (k := L.length - ((L.length - 4 : Nat) : Int).toNat) (c' := c - ((L.length - 4 : Nat) : Int).toNat) (by omega) (by omega) (by omega) (by omega) (by omega)
    refine BytesV.toString EE_ok hS' (e := 5) rfl rfl rfl rfl rfl rfl ?_
    conv => whnf
    refine cnd_intro (by simp only [Bool.and_eq_true, decide_eq_true_eq]; omega) ?_
    conv => whnf
    refine BytesV.toString EE_ok hY' (e := 5) rfl rfl rfl rfl rfl rfl ?_
    conv => whnf
    refine StrK.lists ?_
    rw [open_eq (by omega) rfl (by omega) (by omega)]
    conv => whnf
    refine iteB_split (fun e => ?_) (fun e => ?_)
    · have hne : ¬ L = sealL (L.take (L.length - 4)) := by simpa using e
      conv => whnf
      refine ⟨k1, ?_⟩
      rw [if_neg (by omega), openR, if_neg hne]
      rfl
    · have heq : L = sealL (L.take (L.length - 4)) := by simpa using e
      conv => whnf
      refine cnd_intro (by simp only [Bool.and_eq_true, decide_eq_true_eq]; omega) ?_
      conv => whnf
      refine cnd_intro (by simp only [Bool.and_eq_true, decide_eq_true_eq]; omega) ?_
      conv => whnf
      refine ⟨k1, ?_⟩
      rw [if_neg (by omega), openR, if_pos heq]
      have hR := hS.cut (l := 0) (hi := L.length - 4) (m := ((L.length - 4 : Nat) : Int).toNat) (k := ((L.length - 4 : Nat) : Int).toNat - 0) (c' := ((L.length - 4 : Nat) : Int).toNat - 0) (by omega) (by omega) (by omega) (by omega) (by omega)
      have eM : ((sealL (L.take (L.length - 4))).drop 0).take (((L.length - 4 : Nat) : Int).toNat - 0) = L.take (L.length - 4) := by
        rw [List.drop_zero]
        unfold sealL
        exact List.take_left' (by simp)
      rw [eM] at hR
      have hlen := hR.len
      rw [hlen] at hR
      refine ⟨_, _, ?_, hR⟩
      rw [← hlen]
      rfl

theorem sealL_length (L : List UInt8) : (sealL L).length = L.length + 4 := by simp [sealL, le4]

theorem openR_seal (L : List UInt8) : openR (sealL L) = some L := by
  have e : (sealL L).take ((sealL L).length - 4) = L := by
    rw [sealL_length]
    unfold sealL
    exact List.take_left' (by omega)
  unfold openR
  rw [e, if_pos rfl]

theorem open_seal_call (h : Heap) (v : Value) (L : List UInt8) (hv : BytesV h v (sealL L)) (hl : (sealL L).length ≤ 100000000) :
    CallK Try.prog 32 #[v] h fun v' h' => Keep (fun _ => False) h h' ∧ ∃ A c, v' = .tuple #[.slice A L.length c, .int .i64 0] ∧ BytesV h' (.slice A L.length c) L := by
  refine CallK.mono (crcopen_call h v _ hv hl) ?_
  rintro v' h' ⟨k, hh⟩
  rw [if_neg (by rw [sealL_length]; omega), openR_seal] at hh
  exact ⟨k, hh⟩

theorem open_short_call (h : Heap) (v : Value) (L : List UInt8) (hv : BytesV h v L) (hl : L.length < 4) :
    CallK Try.prog 32 #[v] h fun v' h' => Keep (fun _ => False) h h' ∧ v' = .tuple #[.slice none 0 0, .int .i64 2] := by
  refine CallK.mono (crcopen_call h v _ hv (by omega)) ?_
  rintro v' h' ⟨k, hh⟩
  rw [if_pos hl] at hh
  exact ⟨k, hh⟩

theorem crc_check : crcSum [49, 50, 51, 52, 53, 54, 55, 56, 57] = 3421780262#32 := by decide +kernel

theorem sum2_call (h : Heap) (b : Nat) (v1 v2 : Value) (L1 L2 : List UInt8) {T : TypeId} {fz : Nat × Nat} (hb : h[b]? = some (.cells #[v1, v2] T fz)) (hv1 : BytesV h v1 L1) (hv2 : BytesV h v2 L2) (hl1 : L1.length ≤ 1000000000) (hl2 : L2.length ≤ 1000000000) (kc : Nat) :
    CallK Try.prog 57 #[.slice (some ⟨b, 0, none⟩) 2 kc] h fun v h' => v = .int .u32 ((crcSum (L1 ++ L2)).toNat : Nat) ∧ Keep (fun _ => False) h h' := by
  have := sum_call h (some ⟨b, 0, none⟩) 2 kc [v1, v2] [L1, L2] rfl rfl (Row.of_cells (l := [v1, v2]) hb (p := []) (q := []) rfl rfl) (fun x => by cases x) (by omega) (fun i v' L' h1 h2 => by
    match i with
    | 0 =>
      simp only [List.getElem?_cons_zero, Option.some.injEq] at h1 h2
      subst h1 h2
      exact ⟨hv1, hl1⟩
    | 1 =>
      simp only [List.getElem?_cons_zero, List.getElem?_cons_succ, Option.some.injEq] at h1 h2
      subst h1 h2
      exact ⟨hv2, hl2⟩
    | n + 2 => simp at h1)
  simpa using this

/-! ### the law's head -/

end Go.Proofs.Ytcjilkemfmhkgaa
