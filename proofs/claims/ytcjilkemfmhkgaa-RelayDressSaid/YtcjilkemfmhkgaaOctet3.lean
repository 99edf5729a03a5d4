import Derived.Test.YtcjilkemfmhkgaaOctet2
namespace Go.Proofs.Ytcjilkemfmhkgaa
open Go.Vc
set_option maxRecDepth 10000

/-! ### octet: what is taken one behind the other -/

def rdCells (v : Value) (at_ err : Nat) : List Value := [v, .int .i64 (at_ : Int), .int .i64 (err : Int)]

theorem read_call (h0 : Heap) (v : Value) (L : List UInt8) (hv : BytesV h0 v L) :
    CallK Try.prog 45 #[v] h0 fun r h' => ∃ b, r = .pointer (some ⟨b, 0, none⟩) ∧ New h0 (.cells (rdCells v 0 0).toArray 109) b h' := by
  obtain ⟨A, c, rfl, hc, hr, hA0⟩ := hv.out
  refine CallK.of_vc EW_ok [0, 2] Try.func45 rfl (Nat.le_of_ble_eq_true rfl) ?_
  conv => whnf
  refine FillK.lit rfl ?_
  conv => whnf
  intro b h1 N
  conv => whnf
  exact ⟨b, rfl, N⟩

def rdNum (L : List UInt8) (at_ err : Nat) (size : Int) : Nat × Nat × Nat :=
  if err ≠ 0 then (0, at_, err) else if (getF L at_ size).2 ≠ 0 then (0, at_, (getF L at_ size).2) else ((getF L at_ size).1, at_ + size.toNat, 0)

theorem getF_ok {L : List UInt8} {at_ size : Int} (h : (getF L at_ size).2 = 0) : 1 ≤ size ∧ size ≤ 8 ∧ 0 ≤ at_ ∧ at_ + size ≤ L.length ∧ getF L at_ size = (beNum ((L.drop at_.toNat).take size.toNat), 0) := by
  unfold getF at h ⊢
  split at h
  · simp at h
  · rename_i h1
    rw [if_neg h1]
    split at h
    · simp at h
    · rename_i h2
      rw [if_neg h2]
      refine ⟨by omega, by omega, by omega, by omega, rfl⟩

theorem number_call {h0 h : Heap} {rs : List Res} (H : Hp h0 h rs) (i g : Nat) (v : Value) (L : List UInt8) (at_ err : Nat) (size : Int) (hn : nth rs i = some (Res.ob g (.cells (rdCells v at_ err).toArray 109 (0, 0)))) (hv : BytesV h v L) (hl : L.length ≤ 1000000000)
    (ha : at_ ≤ L.length) (hs1 : -9223372036854775808 ≤ size) (hs2 : size ≤ 9223372036854775807) :
    CallK Try.prog 47 #[.pointer (some ⟨g, 0, none⟩), .int .i64 size] h fun r h' => r = .int .u64 ((rdNum L at_ err size).1 : Nat) ∧ Hp h0 h' (setN rs i (Res.ob g (.cells (rdCells v (rdNum L at_ err size).2.1 (rdNum L at_ err size).2.2).toArray 109 (0, 0)))) := by
  obtain ⟨A, c, rfl, hc, hr, hA0⟩ := hv.out
  refine CallK.of_vc EW_ok [0, 1, 4, 5, 6, 11, 26] Try.func47 rfl (Nat.le_of_ble_eq_true rfl) ?_
  replace H := H.pick i hn
  unfold rdNum
  conv => whnf
  repeat ((first | refine cnd_intro (by first | (simp; done) | (simp; omega) | omega | (simp only [Bool.and_eq_true, decide_eq_true_eq]; omega)) ?_ | refine Hp.ld H 0 rfl rfl ?_ | refine Hp.ld H 1 rfl rfl ?_ | refine Hp.ld H 2 rfl rfl ?_ | refine Hp.ld H 3 rfl rfl ?_ | refine Hp.ld H 4 rfl rfl ?_ | refine Hp.ld H 5 rfl rfl ?_ | (refine Hp.st H 0 rfl rfl rfl rfl rfl ?_; intro h H) | (refine Hp.st H 1 rfl rfl rfl rfl rfl ?_; intro h H) | (refine Hp.st H 2 rfl rfl rfl rfl rfl ?_; intro h H) | (refine Hp.st H 3 rfl rfl rfl rfl rfl ?_; intro h H) | (refine Hp.st H 4 rfl rfl rfl rfl rfl ?_; intro h H) | (refine Hp.st H 5 rfl rfl rfl rfl rfl ?_; intro h H) | (intro b h N; replace H := Hp.new H N; clear N) | refine Drawn.mk (by kernel_rfl) ?_ | refine FillK.row rfl ?_ | refine FillK.lit rfl ?_ | refine WrapK.i64 (by omega) (by omega) ?_ | refine WrapK.u64 (by omega) (by omega) ?_ | refine WrapK.u32 (by omega) (by omega) ?_ | refine WrapK.u8 (by omega) (by omega) ?_); conv => whnf)
  refine iteN (fun t => ?_) (fun t => ?_)
  · conv => whnf
    repeat ((first | refine cnd_intro (by first | (simp; done) | (simp; omega) | omega | (simp only [Bool.and_eq_true, decide_eq_true_eq]; omega)) ?_ | refine Hp.ld H 0 rfl rfl ?_ | refine Hp.ld H 1 rfl rfl ?_ | refine Hp.ld H 2 rfl rfl ?_ | refine Hp.ld H 3 rfl rfl ?_ | refine Hp.ld H 4 rfl rfl ?_ | refine Hp.ld H 5 rfl rfl ?_ | (refine Hp.st H 0 rfl rfl rfl rfl rfl ?_; intro h H) | (refine Hp.st H 1 rfl rfl rfl rfl rfl ?_; intro h H) | (refine Hp.st H 2 rfl rfl rfl rfl rfl ?_; intro h H) | (refine Hp.st H 3 rfl rfl rfl rfl rfl ?_; intro h H) | (refine Hp.st H 4 rfl rfl rfl rfl rfl ?_; intro h H) | (refine Hp.st H 5 rfl rfl rfl rfl rfl ?_; intro h H) | (intro b h N; replace H := Hp.new H N; clear N) | refine Drawn.mk (by kernel_rfl) ?_ | refine FillK.row rfl ?_ | refine FillK.lit rfl ?_ | refine WrapK.i64 (by omega) (by omega) ?_ | refine WrapK.u64 (by omega) (by omega) ?_ | refine WrapK.u32 (by omega) (by omega) ?_ | refine WrapK.u8 (by omega) (by omega) ?_ | refine iteT (by omega) ?_ | refine iteF (by omega) ?_ | refine iteET (by omega) ?_ | refine iteEF (by omega) ?_ | refine iteNT (by omega) ?_ | refine iteNF (by omega) ?_); conv => whnf)
    rw [if_pos (by omega)]
    exact ⟨rfl, H.unpick hn⟩
  · rw [if_neg (by omega)]
    conv => whnf
    repeat ((first | refine cnd_intro (by first | (simp; done) | (simp; omega) | omega | (simp only [Bool.and_eq_true, decide_eq_true_eq]; omega)) ?_ | refine Hp.ld H 0 rfl rfl ?_ | refine Hp.ld H 1 rfl rfl ?_ | refine Hp.ld H 2 rfl rfl ?_ | refine Hp.ld H 3 rfl rfl ?_ | refine Hp.ld H 4 rfl rfl ?_ | refine Hp.ld H 5 rfl rfl ?_ | (refine Hp.st H 0 rfl rfl rfl rfl rfl ?_; intro h H) | (refine Hp.st H 1 rfl rfl rfl rfl rfl ?_; intro h H) | (refine Hp.st H 2 rfl rfl rfl rfl rfl ?_; intro h H) | (refine Hp.st H 3 rfl rfl rfl rfl rfl ?_; intro h H) | (refine Hp.st H 4 rfl rfl rfl rfl rfl ?_; intro h H) | (refine Hp.st H 5 rfl rfl rfl rfl rfl ?_; intro h H) | (intro b h N; replace H := Hp.new H N; clear N) | refine Drawn.mk (by kernel_rfl) ?_ | refine FillK.row rfl ?_ | refine FillK.lit rfl ?_ | refine WrapK.i64 (by omega) (by omega) ?_ | refine WrapK.u64 (by omega) (by omega) ?_ | refine WrapK.u32 (by omega) (by omega) ?_ | refine WrapK.u8 (by omega) (by omega) ?_); conv => whnf)
    refine CallK.mono (get_call _ _ L at_ size hv hl (by omega) (by omega)) ?_
    rintro _ h1 ⟨k1, rfl⟩
    replace H := H.and k1
    have hgf := getF_ok (L := L) (at_ := at_) (size := size)
    have hlt : (getF L at_ size).2 ≤ 2 := by
      unfold getF
      split
      · simp
      · split <;> simp
    generalize getF L at_ size = q at *
    obtain ⟨n, e⟩ := q
    conv => whnf
    repeat ((first | refine cnd_intro (by first | (simp; done) | (simp; omega) | omega | (simp only [Bool.and_eq_true, decide_eq_true_eq]; omega)) ?_ | refine Hp.ld H 0 rfl rfl ?_ | refine Hp.ld H 1 rfl rfl ?_ | refine Hp.ld H 2 rfl rfl ?_ | refine Hp.ld H 3 rfl rfl ?_ | refine Hp.ld H 4 rfl rfl ?_ | refine Hp.ld H 5 rfl rfl ?_ | (refine Hp.st H 0 rfl rfl rfl rfl rfl ?_; intro h H) | (refine Hp.st H 1 rfl rfl rfl rfl rfl ?_; intro h H) | (refine Hp.st H 2 rfl rfl rfl rfl rfl ?_; intro h H) | (refine Hp.st H 3 rfl rfl rfl rfl rfl ?_; intro h H) | (refine Hp.st H 4 rfl rfl rfl rfl rfl ?_; intro h H) | (refine Hp.st H 5 rfl rfl rfl rfl rfl ?_; intro h H) | (intro b h N; replace H := Hp.new H N; clear N) | refine Drawn.mk (by kernel_rfl) ?_ | refine FillK.row rfl ?_ | refine FillK.lit rfl ?_ | refine WrapK.i64 (by omega) (by omega) ?_ | refine WrapK.u64 (by omega) (by omega) ?_ | refine WrapK.u32 (by omega) (by omega) ?_ | refine WrapK.u8 (by omega) (by omega) ?_); conv => whnf)
    refine iteN (fun u => ?_) (fun u => ?_)
    · conv => whnf
      repeat ((first | refine cnd_intro (by first | (simp; done) | (simp; omega) | omega | (simp only [Bool.and_eq_true, decide_eq_true_eq]; omega)) ?_ | refine Hp.ld H 0 rfl rfl ?_ | refine Hp.ld H 1 rfl rfl ?_ | refine Hp.ld H 2 rfl rfl ?_ | refine Hp.ld H 3 rfl rfl ?_ | refine Hp.ld H 4 rfl rfl ?_ | refine Hp.ld H 5 rfl rfl ?_ | (refine Hp.st H 0 rfl rfl rfl rfl rfl ?_; intro h H) | (refine Hp.st H 1 rfl rfl rfl rfl rfl ?_; intro h H) | (refine Hp.st H 2 rfl rfl rfl rfl rfl ?_; intro h H) | (refine Hp.st H 3 rfl rfl rfl rfl rfl ?_; intro h H) | (refine Hp.st H 4 rfl rfl rfl rfl rfl ?_; intro h H) | (refine Hp.st H 5 rfl rfl rfl rfl rfl ?_; intro h H) | (intro b h N; replace H := Hp.new H N; clear N) | refine Drawn.mk (by kernel_rfl) ?_ | refine FillK.row rfl ?_ | refine FillK.lit rfl ?_ | refine WrapK.i64 (by omega) (by omega) ?_ | refine WrapK.u64 (by omega) (by omega) ?_ | refine WrapK.u32 (by omega) (by omega) ?_ | refine WrapK.u8 (by omega) (by omega) ?_ | refine iteT (by omega) ?_ | refine iteF (by omega) ?_ | refine iteET (by omega) ?_ | refine iteEF (by omega) ?_ | refine iteNT (by omega) ?_ | refine iteNF (by omega) ?_); conv => whnf)
      rw [if_pos (by show e ≠ 0; simp only at u; omega)]
      exact ⟨rfl, H.unpick hn⟩
    · have u : e = 0 := by simp only at u; omega
      subst u
      obtain ⟨g1, g2, g3, g4, g5⟩ := hgf rfl
      rw [if_neg (by simp)]
      have e2 : (at_ : Int) + size = ((at_ + size.toNat : Nat) : Int) := by omega
      conv => whnf
      repeat ((first | refine cnd_intro (by first | (simp; done) | (simp; omega) | omega | (simp only [Bool.and_eq_true, decide_eq_true_eq]; omega)) ?_ | refine Hp.ld H 0 rfl rfl ?_ | refine Hp.ld H 1 rfl rfl ?_ | refine Hp.ld H 2 rfl rfl ?_ | refine Hp.ld H 3 rfl rfl ?_ | refine Hp.ld H 4 rfl rfl ?_ | refine Hp.ld H 5 rfl rfl ?_ | (refine Hp.st H 0 rfl rfl rfl rfl rfl ?_; intro h H) | (refine Hp.st H 1 rfl rfl rfl rfl rfl ?_; intro h H) | (refine Hp.st H 2 rfl rfl rfl rfl rfl ?_; intro h H) | (refine Hp.st H 3 rfl rfl rfl rfl rfl ?_; intro h H) | (refine Hp.st H 4 rfl rfl rfl rfl rfl ?_; intro h H) | (refine Hp.st H 5 rfl rfl rfl rfl rfl ?_; intro h H) | (intro b h N; replace H := Hp.new H N; clear N) | refine Drawn.mk (by kernel_rfl) ?_ | refine FillK.row rfl ?_ | refine FillK.lit rfl ?_ | refine WrapK.i64 (by omega) (by omega) ?_ | refine WrapK.u64 (by omega) (by omega) ?_ | refine WrapK.u32 (by omega) (by omega) ?_ | refine WrapK.u8 (by omega) (by omega) ?_ | refine iteT (by omega) ?_ | refine iteF (by omega) ?_ | refine iteET (by omega) ?_ | refine iteEF (by omega) ?_ | refine iteNT (by omega) ?_ | refine iteNF (by omega) ?_); conv => whnf)
      rw [e2] at H
      have t : err = 0 := by omega
      subst t
      exact ⟨rfl, H.unpick hn⟩

def rdTake (L : List UInt8) (at_ err : Nat) (n : Int) : List UInt8 × Nat × Nat :=
  if err ≠ 0 then ([], at_, err) else if n < 0 then ([], at_, 1) else if n > (L.length : Int) - at_ then ([], at_, 2) else ((L.drop at_).take n.toNat, at_ + n.toNat, 0)

theorem take_call {h0 h : Heap} {rs : List Res} (H : Hp h0 h rs) (i g : Nat) (v : Value) (L : List UInt8) (at_ err : Nat) (n : Int) (hn : nth rs i = some (Res.ob g (.cells (rdCells v at_ err).toArray 109 (0, 0)))) (hv : ∀ h', Hp h0 h' (setN rs i (Res.ob g (.cells (rdCells v (rdTake L at_ err n).2.1 (rdTake L at_ err n).2.2).toArray 109 (0, 0)))) → BytesV h' v L)
    (hv0 : BytesV h v L) (hl : L.length ≤ 1000000000) (ha : at_ ≤ L.length) (hs1 : -9223372036854775808 ≤ n) (hs2 : n ≤ 9223372036854775807) :
    CallK Try.prog 50 #[.pointer (some ⟨g, 0, none⟩), .int .i64 n] h fun r h' => Hp h0 h' (Res.own r 5 1 (rdTake L at_ err n).1.length ((rdTake L at_ err n).1.map byteV) :: setN rs i (Res.ob g (.cells (rdCells v (rdTake L at_ err n).2.1 (rdTake L at_ err n).2.2).toArray 109 (0, 0)))) := by
  obtain ⟨A, c, rfl, hc, hr, hA0⟩ := hv0.out
  refine CallK.of_vc EW_ok [0, 1, 4, 5, 11, 17] Try.func50 rfl (Nat.le_of_ble_eq_true rfl) ?_
  replace H := H.pick i hn
  unfold rdTake at *
  conv => whnf
  repeat ((first | refine cnd_intro (by first | (simp; done) | (simp; omega) | omega | (simp only [Bool.and_eq_true, decide_eq_true_eq]; omega)) ?_ | refine Hp.ld H 0 rfl rfl ?_ | refine Hp.ld H 1 rfl rfl ?_ | refine Hp.ld H 2 rfl rfl ?_ | refine Hp.ld H 3 rfl rfl ?_ | refine Hp.ld H 4 rfl rfl ?_ | refine Hp.ld H 5 rfl rfl ?_ | (refine Hp.st H 0 rfl rfl rfl rfl rfl ?_; intro h H) | (refine Hp.st H 1 rfl rfl rfl rfl rfl ?_; intro h H) | (refine Hp.st H 2 rfl rfl rfl rfl rfl ?_; intro h H) | (refine Hp.st H 3 rfl rfl rfl rfl rfl ?_; intro h H) | (refine Hp.st H 4 rfl rfl rfl rfl rfl ?_; intro h H) | (refine Hp.st H 5 rfl rfl rfl rfl rfl ?_; intro h H) | (intro b h N; replace H := Hp.new H N; clear N) | refine Drawn.mk (by kernel_rfl) ?_ | refine FillK.row rfl ?_ | refine FillK.lit rfl ?_ | refine WrapK.i64 (by omega) (by omega) ?_ | refine WrapK.u64 (by omega) (by omega) ?_ | refine WrapK.u32 (by omega) (by omega) ?_ | refine WrapK.u8 (by omega) (by omega) ?_); conv => whnf)
  refine iteN (fun t => ?_) (fun t => ?_)
  · conv => whnf
    repeat ((first | refine cnd_intro (by first | (simp; done) | (simp; omega) | omega | (simp only [Bool.and_eq_true, decide_eq_true_eq]; omega)) ?_ | refine Hp.ld H 0 rfl rfl ?_ | refine Hp.ld H 1 rfl rfl ?_ | refine Hp.ld H 2 rfl rfl ?_ | refine Hp.ld H 3 rfl rfl ?_ | refine Hp.ld H 4 rfl rfl ?_ | refine Hp.ld H 5 rfl rfl ?_ | (refine Hp.st H 0 rfl rfl rfl rfl rfl ?_; intro h H) | (refine Hp.st H 1 rfl rfl rfl rfl rfl ?_; intro h H) | (refine Hp.st H 2 rfl rfl rfl rfl rfl ?_; intro h H) | (refine Hp.st H 3 rfl rfl rfl rfl rfl ?_; intro h H) | (refine Hp.st H 4 rfl rfl rfl rfl rfl ?_; intro h H) | (refine Hp.st H 5 rfl rfl rfl rfl rfl ?_; intro h H) | (intro b h N; replace H := Hp.new H N; clear N) | refine Drawn.mk (by kernel_rfl) ?_ | refine FillK.row rfl ?_ | refine FillK.lit rfl ?_ | refine WrapK.i64 (by omega) (by omega) ?_ | refine WrapK.u64 (by omega) (by omega) ?_ | refine WrapK.u32 (by omega) (by omega) ?_ | refine WrapK.u8 (by omega) (by omega) ?_ | refine iteT (by omega) ?_ | refine iteF (by omega) ?_ | refine iteET (by omega) ?_ | refine iteEF (by omega) ?_ | refine iteNT (by omega) ?_ | refine iteNF (by omega) ?_); conv => whnf)
    rw [if_pos (by omega)] at *
    exact (H.unpick hn).nil _ _
  · rw [if_neg (by omega)] at *
    conv => whnf
    repeat ((first | refine cnd_intro (by first | (simp; done) | (simp; omega) | omega | (simp only [Bool.and_eq_true, decide_eq_true_eq]; omega)) ?_ | refine Hp.ld H 0 rfl rfl ?_ | refine Hp.ld H 1 rfl rfl ?_ | refine Hp.ld H 2 rfl rfl ?_ | refine Hp.ld H 3 rfl rfl ?_ | refine Hp.ld H 4 rfl rfl ?_ | refine Hp.ld H 5 rfl rfl ?_ | (refine Hp.st H 0 rfl rfl rfl rfl rfl ?_; intro h H) | (refine Hp.st H 1 rfl rfl rfl rfl rfl ?_; intro h H) | (refine Hp.st H 2 rfl rfl rfl rfl rfl ?_; intro h H) | (refine Hp.st H 3 rfl rfl rfl rfl rfl ?_; intro h H) | (refine Hp.st H 4 rfl rfl rfl rfl rfl ?_; intro h H) | (refine Hp.st H 5 rfl rfl rfl rfl rfl ?_; intro h H) | (intro b h N; replace H := Hp.new H N; clear N) | refine Drawn.mk (by kernel_rfl) ?_ | refine FillK.row rfl ?_ | refine FillK.lit rfl ?_ | refine WrapK.i64 (by omega) (by omega) ?_ | refine WrapK.u64 (by omega) (by omega) ?_ | refine WrapK.u32 (by omega) (by omega) ?_ | refine WrapK.u8 (by omega) (by omega) ?_); conv => whnf)
    refine iteD (fun u => ?_) (fun u => ?_)
    · conv => whnf
      repeat ((first | refine cnd_intro (by first | (simp; done) | (simp; omega) | omega | (simp only [Bool.and_eq_true, decide_eq_true_eq]; omega)) ?_ | refine Hp.ld H 0 rfl rfl ?_ | refine Hp.ld H 1 rfl rfl ?_ | refine Hp.ld H 2 rfl rfl ?_ | refine Hp.ld H 3 rfl rfl ?_ | refine Hp.ld H 4 rfl rfl ?_ | refine Hp.ld H 5 rfl rfl ?_ | (refine Hp.st H 0 rfl rfl rfl rfl rfl ?_; intro h H) | (refine Hp.st H 1 rfl rfl rfl rfl rfl ?_; intro h H) | (refine Hp.st H 2 rfl rfl rfl rfl rfl ?_; intro h H) | (refine Hp.st H 3 rfl rfl rfl rfl rfl ?_; intro h H) | (refine Hp.st H 4 rfl rfl rfl rfl rfl ?_; intro h H) | (refine Hp.st H 5 rfl rfl rfl rfl rfl ?_; intro h H) | (intro b h N; replace H := Hp.new H N; clear N) | refine Drawn.mk (by kernel_rfl) ?_ | refine FillK.row rfl ?_ | refine FillK.lit rfl ?_ | refine WrapK.i64 (by omega) (by omega) ?_ | refine WrapK.u64 (by omega) (by omega) ?_ | refine WrapK.u32 (by omega) (by omega) ?_ | refine WrapK.u8 (by omega) (by omega) ?_ | refine iteT (by omega) ?_ | refine iteF (by omega) ?_ | refine iteET (by omega) ?_ | refine iteEF (by omega) ?_ | refine iteNT (by omega) ?_ | refine iteNF (by omega) ?_); conv => whnf)
      rw [if_pos u] at *
      have t : err = 0 := by omega
      subst t
      exact (H.unpick hn).nil _ _
    · rw [if_neg u] at *
      conv => whnf
      repeat ((first | refine cnd_intro (by first | (simp; done) | (simp; omega) | omega | (simp only [Bool.and_eq_true, decide_eq_true_eq]; omega)) ?_ | refine Hp.ld H 0 rfl rfl ?_ | refine Hp.ld H 1 rfl rfl ?_ | refine Hp.ld H 2 rfl rfl ?_ | refine Hp.ld H 3 rfl rfl ?_ | refine Hp.ld H 4 rfl rfl ?_ | refine Hp.ld H 5 rfl rfl ?_ | (refine Hp.st H 0 rfl rfl rfl rfl rfl ?_; intro h H) | (refine Hp.st H 1 rfl rfl rfl rfl rfl ?_; intro h H) | (refine Hp.st H 2 rfl rfl rfl rfl rfl ?_; intro h H) | (refine Hp.st H 3 rfl rfl rfl rfl rfl ?_; intro h H) | (refine Hp.st H 4 rfl rfl rfl rfl rfl ?_; intro h H) | (refine Hp.st H 5 rfl rfl rfl rfl rfl ?_; intro h H) | (intro b h N; replace H := Hp.new H N; clear N) | refine Drawn.mk (by kernel_rfl) ?_ | refine FillK.row rfl ?_ | refine FillK.lit rfl ?_ | refine WrapK.i64 (by omega) (by omega) ?_ | refine WrapK.u64 (by omega) (by omega) ?_ | refine WrapK.u32 (by omega) (by omega) ?_ | refine WrapK.u8 (by omega) (by omega) ?_); conv => whnf)
      refine iteD (fun w => ?_) (fun w => ?_)
      · conv => whnf
        repeat ((first | refine cnd_intro (by first | (simp; done) | (simp; omega) | omega | (simp only [Bool.and_eq_true, decide_eq_true_eq]; omega)) ?_ | refine Hp.ld H 0 rfl rfl ?_ | refine Hp.ld H 1 rfl rfl ?_ | refine Hp.ld H 2 rfl rfl ?_ | refine Hp.ld H 3 rfl rfl ?_ | refine Hp.ld H 4 rfl rfl ?_ | refine Hp.ld H 5 rfl rfl ?_ | (refine Hp.st H 0 rfl rfl rfl rfl rfl ?_; intro h H) | (refine Hp.st H 1 rfl rfl rfl rfl rfl ?_; intro h H) | (refine Hp.st H 2 rfl rfl rfl rfl rfl ?_; intro h H) | (refine Hp.st H 3 rfl rfl rfl rfl rfl ?_; intro h H) | (refine Hp.st H 4 rfl rfl rfl rfl rfl ?_; intro h H) | (refine Hp.st H 5 rfl rfl rfl rfl rfl ?_; intro h H) | (intro b h N; replace H := Hp.new H N; clear N) | refine Drawn.mk (by kernel_rfl) ?_ | refine FillK.row rfl ?_ | refine FillK.lit rfl ?_ | refine WrapK.i64 (by omega) (by omega) ?_ | refine WrapK.u64 (by omega) (by omega) ?_ | refine WrapK.u32 (by omega) (by omega) ?_ | refine WrapK.u8 (by omega) (by omega) ?_ | refine iteT (by omega) ?_ | refine iteF (by omega) ?_ | refine iteET (by omega) ?_ | refine iteEF (by omega) ?_ | refine iteNT (by omega) ?_ | refine iteNF (by omega) ?_); conv => whnf)
        rw [if_pos w] at *
        have t : err = 0 := by omega
        subst t
        exact (H.unpick hn).nil _ _
      · rw [if_neg w] at *
        obtain ⟨k, rfl⟩ := Int.eq_ofNat_of_zero_le (show 0 ≤ n by omega)
        have e2 : (at_ : Int) + (k : Int) = ((at_ + k : Nat) : Int) := by omega
        have e3 : (k : Int).toNat = k := rfl
        have t : err = 0 := by omega
        subst t
        rw [e3] at *
        conv => whnf
        repeat ((first | refine cnd_intro (by first | (simp; done) | (simp; omega) | omega | (simp only [Bool.and_eq_true, decide_eq_true_eq]; omega)) ?_ | refine Hp.ld H 0 rfl rfl ?_ | refine Hp.ld H 1 rfl rfl ?_ | refine Hp.ld H 2 rfl rfl ?_ | refine Hp.ld H 3 rfl rfl ?_ | refine Hp.ld H 4 rfl rfl ?_ | refine Hp.ld H 5 rfl rfl ?_ | (refine Hp.st H 0 rfl rfl rfl rfl rfl ?_; intro h H) | (refine Hp.st H 1 rfl rfl rfl rfl rfl ?_; intro h H) | (refine Hp.st H 2 rfl rfl rfl rfl rfl ?_; intro h H) | (refine Hp.st H 3 rfl rfl rfl rfl rfl ?_; intro h H) | (refine Hp.st H 4 rfl rfl rfl rfl rfl ?_; intro h H) | (refine Hp.st H 5 rfl rfl rfl rfl rfl ?_; intro h H) | (intro b h N; replace H := Hp.new H N; clear N) | refine Drawn.mk (by kernel_rfl) ?_ | refine FillK.row rfl ?_ | refine FillK.lit rfl ?_ | refine WrapK.i64 (by omega) (by omega) ?_ | refine WrapK.u64 (by omega) (by omega) ?_ | refine WrapK.u32 (by omega) (by omega) ?_ | refine WrapK.u8 (by omega) (by omega) ?_); conv => whnf)
        rw [e2] at H
        have hM := (hv _ (H.unpick hn)).cut (l := ((at_ : Int) + (k : Int) - (k : Int)).toNat) (hi := ((at_ : Int) + (k : Int)).toNat) (m := c) (by omega) (by omega) (by omega) rfl rfl
        have eM : (L.drop ((at_ : Int) + (k : Int) - (k : Int)).toNat).take (((at_ : Int) + (k : Int)).toNat - ((at_ : Int) + (k : Int) - (k : Int)).toNat) = (L.drop at_).take k := by
          rw [show ((at_ : Int) + (k : Int) - (k : Int)).toNat = at_ by omega, show ((at_ : Int) + (k : Int)).toNat - at_ = k by omega]
        rw [eM] at hM
        replace H := H.nil 5 1
        refine Hp.appendB EW_ok (L := []) H 0 rfl hM rfl rfl rfl (by simp; omega) ?_
        intro s h2 H
        conv => whnf
        repeat ((first | refine cnd_intro (by first | (simp; done) | (simp; omega) | omega | (simp only [Bool.and_eq_true, decide_eq_true_eq]; omega)) ?_ | refine Hp.ld H 0 rfl rfl ?_ | refine Hp.ld H 1 rfl rfl ?_ | refine Hp.ld H 2 rfl rfl ?_ | refine Hp.ld H 3 rfl rfl ?_ | refine Hp.ld H 4 rfl rfl ?_ | refine Hp.ld H 5 rfl rfl ?_ | (refine Hp.st H 0 rfl rfl rfl rfl rfl ?_; intro h H) | (refine Hp.st H 1 rfl rfl rfl rfl rfl ?_; intro h H) | (refine Hp.st H 2 rfl rfl rfl rfl rfl ?_; intro h H) | (refine Hp.st H 3 rfl rfl rfl rfl rfl ?_; intro h H) | (refine Hp.st H 4 rfl rfl rfl rfl rfl ?_; intro h H) | (refine Hp.st H 5 rfl rfl rfl rfl rfl ?_; intro h H) | (intro b h N; replace H := Hp.new H N; clear N) | refine Drawn.mk (by kernel_rfl) ?_ | refine FillK.row rfl ?_ | refine FillK.lit rfl ?_ | refine WrapK.i64 (by omega) (by omega) ?_ | refine WrapK.u64 (by omega) (by omega) ?_ | refine WrapK.u32 (by omega) (by omega) ?_ | refine WrapK.u8 (by omega) (by omega) ?_ | refine iteT (by omega) ?_ | refine iteF (by omega) ?_ | refine iteET (by omega) ?_ | refine iteEF (by omega) ?_ | refine iteNT (by omega) ?_ | refine iteNF (by omega) ?_); conv => whnf)
        exact H.unpick1 hn

theorem left_call {h : Heap} (g : Nat) (v : Value) (L : List UInt8) (at_ err : Nat) (hg : h[g]? = some (.cells (rdCells v at_ err).toArray 109 (0, 0))) (hv : BytesV h v L) (hl : L.length ≤ 1000000000) (ha : at_ ≤ L.length) :
    CallK Try.prog 51 #[.pointer (some ⟨g, 0, none⟩)] h fun r h' => h' = h ∧ r = .int .i64 ((L.length - at_ : Nat) : Int) := by
  obtain ⟨A, c, rfl, hc, hr, hA0⟩ := hv.out
  refine CallK.of_vc EW_ok [0, 2] Try.func51 rfl (Nat.le_of_ble_eq_true rfl) ?_
  conv => whnf
  refine Drawn.mk (by kernel_rfl) ?_
  conv => whnf
  refine LdK.lit hg rfl ?_
  conv => whnf
  refine LdK.lit hg rfl ?_
  conv => whnf
  refine WrapK.i64 (by omega) (by omega) ?_
  conv => whnf
  refine ⟨rfl, ?_⟩
  rw [tup_one]
  congr 1
  omega

end Go.Proofs.Ytcjilkemfmhkgaa
