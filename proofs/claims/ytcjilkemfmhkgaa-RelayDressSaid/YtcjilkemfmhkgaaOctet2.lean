import Derived.Test.YtcjilkemfmhkgaaOctet
namespace Go.Proofs.Ytcjilkemfmhkgaa
open Go.Vc
set_option maxRecDepth 10000

theorem join_call (h0 : Heap) (P : Option Addr) (k kc : Nat) (vs : List Value) (Ls : List (List UInt8)) (hk : vs.length = k) (hl : Ls.length = k) (hP : Row h0 P vs) (hk1 : k ≤ 1000000000) (hsum : Ls.flatten.length ≤ 1000000000)
    (hv : ∀ (i : Nat) v L, vs[i]? = some v → Ls[i]? = some L → BytesV h0 v L) :
    CallK Try.prog 26 #[.slice P k kc] h0 fun v h' => Keep (fun _ => False) h0 h' ∧ OwnS h0.size h' 5 1 v Ls.flatten.length (Ls.flatten.map byteV) := by
  refine CallK.of_vc EW_ok [0, 2, 3, 5, 6, 7, 8, 9] Try.func26 rfl (Nat.le_of_ble_eq_true rfl) ?_
  have H := (Hp.start h0).nil 5 1
  conv => whnf
  repeat ((first | refine cnd_intro (by first | (simp; done) | (simp; omega) | omega | (simp only [Bool.and_eq_true, decide_eq_true_eq]; omega)) ?_ | refine Hp.ld H 0 rfl rfl ?_ | refine Hp.ld H 1 rfl rfl ?_ | refine Hp.ld H 2 rfl rfl ?_ | refine Hp.ld H 3 rfl rfl ?_ | refine Hp.ld H 4 rfl rfl ?_ | refine Hp.ld H 5 rfl rfl ?_ | (refine Hp.st H 0 rfl rfl rfl rfl rfl ?_; intro h H) | (refine Hp.st H 1 rfl rfl rfl rfl rfl ?_; intro h H) | (refine Hp.st H 2 rfl rfl rfl rfl rfl ?_; intro h H) | (refine Hp.st H 3 rfl rfl rfl rfl rfl ?_; intro h H) | (refine Hp.st H 4 rfl rfl rfl rfl rfl ?_; intro h H) | (refine Hp.st H 5 rfl rfl rfl rfl rfl ?_; intro h H) | (intro b h N; replace H := Hp.new H N; clear N) | refine Drawn.mk (by kernel_rfl) ?_ | refine FillK.row rfl ?_ | refine FillK.lit rfl ?_ | refine WrapK.i64 (by omega) (by omega) ?_ | refine WrapK.u64 (by omega) (by omega) ?_ | refine WrapK.u32 (by omega) (by omega) ?_ | refine WrapK.u8 (by omega) (by omega) ?_ | refine iteT (by omega) ?_ | refine iteF (by omega) ?_ | refine iteET (by omega) ?_ | refine iteEF (by omega) ?_ | refine iteNT (by omega) ?_ | refine iteNF (by omega) ?_); conv => whnf)
  refine ⟨Nat × Value, [0, 2, 6, 7], fun i => [(8, .int .i64 (i.1 : Nat)), (3, i.2)], fun i h' => i.1 ≤ k ∧ Hp h0 h' [Res.own i.2 5 1 (Ls.take i.1).flatten.length ((Ls.take i.1).flatten.map byteV)], fun i => k - i.1, ?_⟩
  conv => whnf
  refine ⟨⟨(0, .slice none 0 0), ⟨rfl, rfl, trivial⟩, by omega, H⟩, ?_⟩
  clear H
  rintro ⟨i, s⟩ h3 ⟨iA, H⟩
  conv => whnf
  refine iteD (fun r => ?_) (fun r => ?_)
  · obtain ⟨v, hvi⟩ := list_at (L := vs) (i := i) (by omega)
    obtain ⟨L, hLi⟩ := list_at (L := Ls) (i := i) (by omega)
    have hb := hv i v L hvi hLi
    obtain ⟨A, c, rfl, _, _, _⟩ := hb.out
    have hel := (hP.keep H.keep).at_ hvi
    obtain ⟨sb, so, rfl⟩ := hel.some
    have e1 : (Ls.take (i + 1)).flatten = (Ls.take i).flatten ++ L := by rw [List.take_add_one, hLi]; simp
    have e2 : (Ls.take (i + 1)).flatten.length ≤ Ls.flatten.length := by
      conv => rhs; rw [← List.take_append_drop (i + 1) Ls, List.flatten_append, List.length_append]
      omega
    rw [e1, List.length_append] at e2
    conv => whnf
    repeat ((first | refine cnd_intro (by first | (simp; done) | (simp; omega) | omega | (simp only [Bool.and_eq_true, decide_eq_true_eq]; omega)) ?_ | refine Hp.ld H 0 rfl rfl ?_ | refine Hp.ld H 1 rfl rfl ?_ | refine Hp.ld H 2 rfl rfl ?_ | refine Hp.ld H 3 rfl rfl ?_ | refine Hp.ld H 4 rfl rfl ?_ | refine Hp.ld H 5 rfl rfl ?_ | (refine Hp.st H 0 rfl rfl rfl rfl rfl ?_; intro h H) | (refine Hp.st H 1 rfl rfl rfl rfl rfl ?_; intro h H) | (refine Hp.st H 2 rfl rfl rfl rfl rfl ?_; intro h H) | (refine Hp.st H 3 rfl rfl rfl rfl rfl ?_; intro h H) | (refine Hp.st H 4 rfl rfl rfl rfl rfl ?_; intro h H) | (refine Hp.st H 5 rfl rfl rfl rfl rfl ?_; intro h H) | (intro b h N; replace H := Hp.new H N; clear N) | refine Drawn.mk (by kernel_rfl) ?_ | refine FillK.row rfl ?_ | refine FillK.lit rfl ?_ | refine WrapK.i64 (by omega) (by omega) ?_ | refine WrapK.u64 (by omega) (by omega) ?_ | refine WrapK.u32 (by omega) (by omega) ?_ | refine WrapK.u8 (by omega) (by omega) ?_ | refine iteT (by omega) ?_ | refine iteF (by omega) ?_ | refine iteET (by omega) ?_ | refine iteEF (by omega) ?_ | refine iteNT (by omega) ?_ | refine iteNF (by omega) ?_); conv => whnf)
    refine LdK.elem hel (y := ⟨.slice 5, 1, 24, false, some (.slice none 0 0)⟩) rfl (by first | omega | (simp; done) | (simp; omega)) (.inr ⟨_, rfl⟩) ?_
    conv => whnf
    repeat ((first | refine cnd_intro (by first | (simp; done) | (simp; omega) | omega | (simp only [Bool.and_eq_true, decide_eq_true_eq]; omega)) ?_ | refine Hp.ld H 0 rfl rfl ?_ | refine Hp.ld H 1 rfl rfl ?_ | refine Hp.ld H 2 rfl rfl ?_ | refine Hp.ld H 3 rfl rfl ?_ | refine Hp.ld H 4 rfl rfl ?_ | refine Hp.ld H 5 rfl rfl ?_ | (refine Hp.st H 0 rfl rfl rfl rfl rfl ?_; intro h H) | (refine Hp.st H 1 rfl rfl rfl rfl rfl ?_; intro h H) | (refine Hp.st H 2 rfl rfl rfl rfl rfl ?_; intro h H) | (refine Hp.st H 3 rfl rfl rfl rfl rfl ?_; intro h H) | (refine Hp.st H 4 rfl rfl rfl rfl rfl ?_; intro h H) | (refine Hp.st H 5 rfl rfl rfl rfl rfl ?_; intro h H) | (intro b h N; replace H := Hp.new H N; clear N) | refine Drawn.mk (by kernel_rfl) ?_ | refine FillK.row rfl ?_ | refine FillK.lit rfl ?_ | refine WrapK.i64 (by omega) (by omega) ?_ | refine WrapK.u64 (by omega) (by omega) ?_ | refine WrapK.u32 (by omega) (by omega) ?_ | refine WrapK.u8 (by omega) (by omega) ?_ | refine iteT (by omega) ?_ | refine iteF (by omega) ?_ | refine iteET (by omega) ?_ | refine iteEF (by omega) ?_ | refine iteNT (by omega) ?_ | refine iteNF (by omega) ?_); conv => whnf)
    refine Hp.appendB EW_ok H 0 rfl (hb.keep H.keep) rfl rfl rfl (by show (Ls.take i).flatten.length + L.length ≤ _; omega) ?_
    intro s2 h4 H
    rw [← e1] at H
    conv => whnf
    repeat ((first | refine cnd_intro (by first | (simp; done) | (simp; omega) | omega | (simp only [Bool.and_eq_true, decide_eq_true_eq]; omega)) ?_ | refine Hp.ld H 0 rfl rfl ?_ | refine Hp.ld H 1 rfl rfl ?_ | refine Hp.ld H 2 rfl rfl ?_ | refine Hp.ld H 3 rfl rfl ?_ | refine Hp.ld H 4 rfl rfl ?_ | refine Hp.ld H 5 rfl rfl ?_ | (refine Hp.st H 0 rfl rfl rfl rfl rfl ?_; intro h H) | (refine Hp.st H 1 rfl rfl rfl rfl rfl ?_; intro h H) | (refine Hp.st H 2 rfl rfl rfl rfl rfl ?_; intro h H) | (refine Hp.st H 3 rfl rfl rfl rfl rfl ?_; intro h H) | (refine Hp.st H 4 rfl rfl rfl rfl rfl ?_; intro h H) | (refine Hp.st H 5 rfl rfl rfl rfl rfl ?_; intro h H) | (intro b h N; replace H := Hp.new H N; clear N) | refine Drawn.mk (by kernel_rfl) ?_ | refine FillK.row rfl ?_ | refine FillK.lit rfl ?_ | refine WrapK.i64 (by omega) (by omega) ?_ | refine WrapK.u64 (by omega) (by omega) ?_ | refine WrapK.u32 (by omega) (by omega) ?_ | refine WrapK.u8 (by omega) (by omega) ?_ | refine iteT (by omega) ?_ | refine iteF (by omega) ?_ | refine iteET (by omega) ?_ | refine iteEF (by omega) ?_ | refine iteNT (by omega) ?_ | refine iteNF (by omega) ?_); conv => whnf)
    exact ⟨(i + 1, s2), ⟨(by first | rfl | (show Value.int .i64 _ = _; congr 1; omega) | (show Value.int .i64 _ = _; rw [wrap64_id (by omega) (by omega)]; first | rfl | (congr 1; omega))), rfl, trivial⟩, (by repeat (first | exact trivial | refine ⟨rfl, ?_⟩)), ⟨by show i + 1 ≤ k; omega, H⟩, by show k - (i + 1) < k - i; omega⟩
  · have e1 : Ls.take i = Ls := List.take_of_length_le (by have : i ≤ k := iA; omega)
    rw [e1] at H
    conv => whnf
    repeat ((first | refine cnd_intro (by first | (simp; done) | (simp; omega) | omega | (simp only [Bool.and_eq_true, decide_eq_true_eq]; omega)) ?_ | refine Hp.ld H 0 rfl rfl ?_ | refine Hp.ld H 1 rfl rfl ?_ | refine Hp.ld H 2 rfl rfl ?_ | refine Hp.ld H 3 rfl rfl ?_ | refine Hp.ld H 4 rfl rfl ?_ | refine Hp.ld H 5 rfl rfl ?_ | (refine Hp.st H 0 rfl rfl rfl rfl rfl ?_; intro h H) | (refine Hp.st H 1 rfl rfl rfl rfl rfl ?_; intro h H) | (refine Hp.st H 2 rfl rfl rfl rfl rfl ?_; intro h H) | (refine Hp.st H 3 rfl rfl rfl rfl rfl ?_; intro h H) | (refine Hp.st H 4 rfl rfl rfl rfl rfl ?_; intro h H) | (refine Hp.st H 5 rfl rfl rfl rfl rfl ?_; intro h H) | (intro b h N; replace H := Hp.new H N; clear N) | refine Drawn.mk (by kernel_rfl) ?_ | refine FillK.row rfl ?_ | refine FillK.lit rfl ?_ | refine WrapK.i64 (by omega) (by omega) ?_ | refine WrapK.u64 (by omega) (by omega) ?_ | refine WrapK.u32 (by omega) (by omega) ?_ | refine WrapK.u8 (by omega) (by omega) ?_ | refine iteT (by omega) ?_ | refine iteF (by omega) ?_ | refine iteET (by omega) ?_ | refine iteEF (by omega) ?_ | refine iteNT (by omega) ?_ | refine iteNF (by omega) ?_); conv => whnf)
    exact ⟨H.keep, H.own_out 0 rfl⟩

def bitF (n : Nat) (at_ : Int) : Bool := decide (0 ≤ at_ ∧ at_ < 64 ∧ n / 2 ^ at_.toNat % 2 = 1)

theorem bit_call (h0 : Heap) (n : Nat) (at_ : Int) (hn : n < 18446744073709551616) :
    CallK Try.prog 49 #[.int .u64 (n : Int), .int .i64 at_] h0 fun v h' => h' = h0 ∧ v = .bool (bitF n at_) := by
  refine CallK.of_vc EW_ok [0, 1, 4] Try.func49 rfl (Nat.le_of_ble_eq_true rfl) ?_
  unfold bitF
  conv => whnf
  refine iteD (fun t => ?_) (fun t => ?_)
  · conv => whnf
    refine iteD (fun u => ?_) (fun u => ?_)
    · obtain ⟨k, rfl⟩ := Int.eq_ofNat_of_zero_le t
      have h1 : n / 2 ^ k ≤ n := Nat.div_le_self _ _
      conv => whnf
      repeat ((first | refine cnd_intro (by first | (simp; done) | (simp; omega) | omega | (simp only [Bool.and_eq_true, decide_eq_true_eq]; omega)) ?_ | refine Hp.ld H 0 rfl rfl ?_ | refine Hp.ld H 1 rfl rfl ?_ | refine Hp.ld H 2 rfl rfl ?_ | refine Hp.ld H 3 rfl rfl ?_ | refine Hp.ld H 4 rfl rfl ?_ | refine Hp.ld H 5 rfl rfl ?_ | (refine Hp.st H 0 rfl rfl rfl rfl rfl ?_; intro h H) | (refine Hp.st H 1 rfl rfl rfl rfl rfl ?_; intro h H) | (refine Hp.st H 2 rfl rfl rfl rfl rfl ?_; intro h H) | (refine Hp.st H 3 rfl rfl rfl rfl rfl ?_; intro h H) | (refine Hp.st H 4 rfl rfl rfl rfl rfl ?_; intro h H) | (refine Hp.st H 5 rfl rfl rfl rfl rfl ?_; intro h H) | (intro b h N; replace H := Hp.new H N; clear N) | refine Drawn.mk (by kernel_rfl) ?_ | refine FillK.row rfl ?_ | refine FillK.lit rfl ?_ | refine WrapK.i64 (by omega) (by omega) ?_ | refine WrapK.u64 (by omega) (by omega) ?_ | refine WrapK.u32 (by omega) (by omega) ?_ | refine WrapK.u8 (by omega) (by omega) ?_); conv => whnf)
      refine ⟨rfl, ?_⟩
      rw [tup_one, bShr_u64 hn, show (1 : Int) = ((1 : Nat) : Int) by rfl, bAnd_u64 (by omega) (by omega), Nat.and_one_is_mod]
      congr 1
      have e : (k : Int).toNat = k := rfl
      rw [e]
      by_cases h : n / 2 ^ k % 2 = 1
      · rw [h, decide_eq_true ⟨t, u, rfl⟩]; rfl
      · rw [decide_eq_false (fun x => h x.2.2)]
        have : n / 2 ^ k % 2 = 0 := by omega
        rw [this]; rfl
    · conv => whnf
      refine ⟨rfl, ?_⟩
      rw [tup_one, decide_eq_false (p := 0 ≤ at_ ∧ at_ < 64 ∧ n / 2 ^ at_.toNat % 2 = 1) (fun x => u x.2.1)]
  · conv => whnf
    refine ⟨rfl, ?_⟩
    rw [tup_one, decide_eq_false (p := 0 ≤ at_ ∧ at_ < 64 ∧ n / 2 ^ at_.toNat % 2 = 1) (fun x => t x.1)]

def bitsF (n : Nat) (f t : Int) : Nat := if f < 0 ∨ t > 64 ∨ f ≥ t then 0 else n / 2 ^ f.toNat % 2 ^ (t - f).toNat

theorem bits_call (h0 : Heap) (n : Nat) (f t : Int) (hn : n < 18446744073709551616) :
    CallK Try.prog 48 #[.int .u64 (n : Int), .int .i64 f, .int .i64 t] h0 fun v h' => h' = h0 ∧ v = .int .u64 ((bitsF n f t : Nat) : Int) := by
  refine CallK.of_vc EW_ok [0, 1, 2, 6, 17, 24] Try.func48 rfl (Nat.le_of_ble_eq_true rfl) ?_
  unfold bitsF
  conv => whnf
  refine iteD (fun u => ?_) (fun u => ?_)
  · conv => whnf
    rw [if_pos (by omega)]
    exact ⟨rfl, rfl⟩
  · conv => whnf
    refine iteD (fun w => ?_) (fun w => ?_)
    · conv => whnf
      rw [if_pos (by omega)]
      exact ⟨rfl, rfl⟩
    · conv => whnf
      refine iteD (fun x => ?_) (fun x => ?_)
      · conv => whnf
        rw [if_pos (by omega)]
        exact ⟨rfl, rfl⟩
      · rw [if_neg (by omega)]
        obtain ⟨a, rfl⟩ := Int.eq_ofNat_of_zero_le (show 0 ≤ f by omega)
        obtain ⟨d, rfl⟩ : ∃ d : Nat, t = ((a + d : Nat) : Int) := ⟨(t - a).toNat, by omega⟩
        have h1 : n / 2 ^ a ≤ n := Nat.div_le_self _ _
        have e1 : (a : Int).toNat = a := rfl
        have e2 : (((a + d : Nat) : Int) - (a : Int)).toNat = d := by omega
        have e3 : ((a + d : Nat) : Int) - (a : Int) = (d : Int) := by omega
        rw [e1, e2]
        conv => whnf
        repeat ((first | refine cnd_intro (by first | (simp; done) | (simp; omega) | omega | (simp only [Bool.and_eq_true, decide_eq_true_eq]; omega)) ?_ | refine Hp.ld H 0 rfl rfl ?_ | refine Hp.ld H 1 rfl rfl ?_ | refine Hp.ld H 2 rfl rfl ?_ | refine Hp.ld H 3 rfl rfl ?_ | refine Hp.ld H 4 rfl rfl ?_ | refine Hp.ld H 5 rfl rfl ?_ | (refine Hp.st H 0 rfl rfl rfl rfl rfl ?_; intro h H) | (refine Hp.st H 1 rfl rfl rfl rfl rfl ?_; intro h H) | (refine Hp.st H 2 rfl rfl rfl rfl rfl ?_; intro h H) | (refine Hp.st H 3 rfl rfl rfl rfl rfl ?_; intro h H) | (refine Hp.st H 4 rfl rfl rfl rfl rfl ?_; intro h H) | (refine Hp.st H 5 rfl rfl rfl rfl rfl ?_; intro h H) | (intro b h N; replace H := Hp.new H N; clear N) | refine Drawn.mk (by kernel_rfl) ?_ | refine FillK.row rfl ?_ | refine FillK.lit rfl ?_ | refine WrapK.i64 (by omega) (by omega) ?_ | refine WrapK.u64 (by omega) (by omega) ?_ | refine WrapK.u32 (by omega) (by omega) ?_ | refine WrapK.u8 (by omega) (by omega) ?_); conv => whnf)
        rw [e3]
        conv => whnf
        repeat ((first | refine cnd_intro (by first | (simp; done) | (simp; omega) | omega | (simp only [Bool.and_eq_true, decide_eq_true_eq]; omega)) ?_ | refine Hp.ld H 0 rfl rfl ?_ | refine Hp.ld H 1 rfl rfl ?_ | refine Hp.ld H 2 rfl rfl ?_ | refine Hp.ld H 3 rfl rfl ?_ | refine Hp.ld H 4 rfl rfl ?_ | refine Hp.ld H 5 rfl rfl ?_ | (refine Hp.st H 0 rfl rfl rfl rfl rfl ?_; intro h H) | (refine Hp.st H 1 rfl rfl rfl rfl rfl ?_; intro h H) | (refine Hp.st H 2 rfl rfl rfl rfl rfl ?_; intro h H) | (refine Hp.st H 3 rfl rfl rfl rfl rfl ?_; intro h H) | (refine Hp.st H 4 rfl rfl rfl rfl rfl ?_; intro h H) | (refine Hp.st H 5 rfl rfl rfl rfl rfl ?_; intro h H) | (intro b h N; replace H := Hp.new H N; clear N) | refine Drawn.mk (by kernel_rfl) ?_ | refine FillK.row rfl ?_ | refine FillK.lit rfl ?_ | refine WrapK.i64 (by omega) (by omega) ?_ | refine WrapK.u64 (by omega) (by omega) ?_ | refine WrapK.u32 (by omega) (by omega) ?_ | refine WrapK.u8 (by omega) (by omega) ?_); conv => whnf)
        refine iteD (fun y => ?_) (fun y => ?_)
        · have h2 : 2 ^ d ≤ 2 ^ 63 := Nat.pow_le_pow_right (by omega) (by omega)
          have h3 : (2 : Nat) ^ 63 = 9223372036854775808 := by decide
          have h4 : 0 < 2 ^ d := Nat.pow_pos (by omega)
          have w1 : bShl .u64 1 (d : Int) = ((2 ^ d : Nat) : Int) := by
            have := bShl_u64 (a := 1) (by omega) d
            rw [show ((1 : Nat) : Int) = 1 by rfl] at this
            rw [this, Nat.one_mul, Nat.mod_eq_of_lt (by omega)]
          have w2 : ((2 ^ d : Nat) : Int) - 1 = ((2 ^ d - 1 : Nat) : Int) := by omega
          conv => whnf
          repeat ((first | refine cnd_intro (by first | (simp; done) | (simp; omega) | omega | (simp only [Bool.and_eq_true, decide_eq_true_eq]; omega)) ?_ | refine Hp.ld H 0 rfl rfl ?_ | refine Hp.ld H 1 rfl rfl ?_ | refine Hp.ld H 2 rfl rfl ?_ | refine Hp.ld H 3 rfl rfl ?_ | refine Hp.ld H 4 rfl rfl ?_ | refine Hp.ld H 5 rfl rfl ?_ | (refine Hp.st H 0 rfl rfl rfl rfl rfl ?_; intro h H) | (refine Hp.st H 1 rfl rfl rfl rfl rfl ?_; intro h H) | (refine Hp.st H 2 rfl rfl rfl rfl rfl ?_; intro h H) | (refine Hp.st H 3 rfl rfl rfl rfl rfl ?_; intro h H) | (refine Hp.st H 4 rfl rfl rfl rfl rfl ?_; intro h H) | (refine Hp.st H 5 rfl rfl rfl rfl rfl ?_; intro h H) | (intro b h N; replace H := Hp.new H N; clear N) | refine Drawn.mk (by kernel_rfl) ?_ | refine FillK.row rfl ?_ | refine FillK.lit rfl ?_ | refine WrapK.i64 (by omega) (by omega) ?_ | refine WrapK.u64 (by omega) (by omega) ?_ | refine WrapK.u32 (by omega) (by omega) ?_ | refine WrapK.u8 (by omega) (by omega) ?_ | refine iteT (by omega) ?_ | refine iteF (by omega) ?_ | refine iteET (by omega) ?_ | refine iteEF (by omega) ?_ | refine iteNT (by omega) ?_ | refine iteNF (by omega) ?_); conv => whnf)
          rw [e3]
          conv => whnf
          repeat ((first | refine cnd_intro (by first | (simp; done) | (simp; omega) | omega | (simp only [Bool.and_eq_true, decide_eq_true_eq]; omega)) ?_ | refine Hp.ld H 0 rfl rfl ?_ | refine Hp.ld H 1 rfl rfl ?_ | refine Hp.ld H 2 rfl rfl ?_ | refine Hp.ld H 3 rfl rfl ?_ | refine Hp.ld H 4 rfl rfl ?_ | refine Hp.ld H 5 rfl rfl ?_ | (refine Hp.st H 0 rfl rfl rfl rfl rfl ?_; intro h H) | (refine Hp.st H 1 rfl rfl rfl rfl rfl ?_; intro h H) | (refine Hp.st H 2 rfl rfl rfl rfl rfl ?_; intro h H) | (refine Hp.st H 3 rfl rfl rfl rfl rfl ?_; intro h H) | (refine Hp.st H 4 rfl rfl rfl rfl rfl ?_; intro h H) | (refine Hp.st H 5 rfl rfl rfl rfl rfl ?_; intro h H) | (intro b h N; replace H := Hp.new H N; clear N) | refine Drawn.mk (by kernel_rfl) ?_ | refine FillK.row rfl ?_ | refine FillK.lit rfl ?_ | refine WrapK.i64 (by omega) (by omega) ?_ | refine WrapK.u64 (by omega) (by omega) ?_ | refine WrapK.u32 (by omega) (by omega) ?_ | refine WrapK.u8 (by omega) (by omega) ?_ | refine iteT (by omega) ?_ | refine iteF (by omega) ?_ | refine iteET (by omega) ?_ | refine iteEF (by omega) ?_ | refine iteNT (by omega) ?_ | refine iteNF (by omega) ?_); conv => whnf)
          rw [w1]
          conv => whnf
          repeat ((first | refine cnd_intro (by first | (simp; done) | (simp; omega) | omega | (simp only [Bool.and_eq_true, decide_eq_true_eq]; omega)) ?_ | refine Hp.ld H 0 rfl rfl ?_ | refine Hp.ld H 1 rfl rfl ?_ | refine Hp.ld H 2 rfl rfl ?_ | refine Hp.ld H 3 rfl rfl ?_ | refine Hp.ld H 4 rfl rfl ?_ | refine Hp.ld H 5 rfl rfl ?_ | (refine Hp.st H 0 rfl rfl rfl rfl rfl ?_; intro h H) | (refine Hp.st H 1 rfl rfl rfl rfl rfl ?_; intro h H) | (refine Hp.st H 2 rfl rfl rfl rfl rfl ?_; intro h H) | (refine Hp.st H 3 rfl rfl rfl rfl rfl ?_; intro h H) | (refine Hp.st H 4 rfl rfl rfl rfl rfl ?_; intro h H) | (refine Hp.st H 5 rfl rfl rfl rfl rfl ?_; intro h H) | (intro b h N; replace H := Hp.new H N; clear N) | refine Drawn.mk (by kernel_rfl) ?_ | refine FillK.row rfl ?_ | refine FillK.lit rfl ?_ | refine WrapK.i64 (by omega) (by omega) ?_ | refine WrapK.u64 (by omega) (by omega) ?_ | refine WrapK.u32 (by omega) (by omega) ?_ | refine WrapK.u8 (by omega) (by omega) ?_ | refine iteT (by omega) ?_ | refine iteF (by omega) ?_ | refine iteET (by omega) ?_ | refine iteEF (by omega) ?_ | refine iteNT (by omega) ?_ | refine iteNF (by omega) ?_); conv => whnf)
          refine ⟨rfl, ?_⟩
          have h5 : n / 2 ^ a < 18446744073709551616 := by omega
          rw [tup_one, bShr_u64 hn, w2, bAnd_u64 h5 (by omega), and_mask]
        · have h2 : 2 ^ 64 ≤ 2 ^ d := Nat.pow_le_pow_right (by omega) (by omega)
          have h3 : (2 : Nat) ^ 64 = 18446744073709551616 := by decide
          conv => whnf
          refine ⟨rfl, ?_⟩
          rw [tup_one, bShr_u64 hn, Nat.mod_eq_of_lt (by omega)]

end Go.Proofs.Ytcjilkemfmhkgaa
