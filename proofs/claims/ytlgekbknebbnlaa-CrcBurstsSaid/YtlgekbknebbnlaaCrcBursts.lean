import Derived.Test.YtlgekbknebbnlaaCrcBits
import Derived.Test.YtlgekbknebbnlaaBytes
namespace Go.Proofs.Ytlgekbknebbnlaa
open Go.Vc
set_option maxRecDepth 10000

/-! ### a burst -/

def burst (w : BitVec 32) (at_ : Nat) (L : List UInt8) : Nat → List UInt8
  | 0 => L
  | i + 1 => if w.getLsbD i then (burst w at_ L i).set ((at_ + i) / 8) ((burst w at_ L i).getD ((at_ + i) / 8) 0 ^^^ UInt8.ofNat (2 ^ ((at_ + i) % 8))) else burst w at_ L i

theorem burst_length (w : BitVec 32) (at_ : Nat) (L : List UInt8) : ∀ i, (burst w at_ L i).length = L.length
  | 0 => rfl
  | i + 1 => by
    unfold burst
    split
    · rw [List.length_set, burst_length]
    · exact burst_length w at_ L i

theorem one_bit : ∀ k : Fin 8, ∀ p : Fin 8, (UInt8.ofNat (2 ^ k.val)).toBitVec.getLsbD p.val = decide (p.val = k.val) := by decide

theorem bitAt_set {L : List UInt8} {q p : Nat} (hq : q < 8 * L.length) (hp : p < 8 * L.length) : bitAt (L.set (q / 8) (L.getD (q / 8) 0 ^^^ UInt8.ofNat (2 ^ (q % 8)))) p = (bitAt L p ^^ decide (p = q)) := by
  unfold bitAt
  have h1 : p / 8 < L.length := by omega
  simp only [List.getD_eq_getElem?_getD, List.getElem?_set]
  by_cases e : q / 8 = p / 8
  · rw [if_pos e, if_pos (by omega), e]
    have hb := one_bit ⟨q % 8, by omega⟩ ⟨p % 8, by omega⟩
    simp only at hb
    show ((L[p / 8]?.getD 0).toBitVec ^^^ (UInt8.ofNat (2 ^ (q % 8))).toBitVec).getLsbD (p % 8) = _
    rw [BitVec.getLsbD_xor, hb]
    congr 1
    have : (p % 8 = q % 8) = (p = q) := by apply propext; omega
    simp only [this]
  · rw [if_neg e]
    have : ¬ p = q := by intro h; subst h; exact e rfl
    simp [this]

theorem burst_bit (w : BitVec 32) (at_ : Nat) (L : List UInt8) (hat : at_ + 32 ≤ 8 * L.length) : ∀ i, i ≤ 32 → ∀ p, p < 8 * L.length → bitAt (burst w at_ L i) p = (bitAt L p ^^ (decide (at_ ≤ p) && (decide (p < at_ + i) && w.getLsbD (p - at_))))
  | 0, _, p, hp => by
    simp only [burst]
    by_cases h : at_ ≤ p
    · simp [show ¬ p < at_ by omega]
    · simp [h]
  | i + 1, hi, p, hp => by
    have ih := burst_bit w at_ L hat i (by omega) p hp
    have hl := burst_length w at_ L i
    unfold burst
    split
    · rename_i hw
      rw [bitAt_set (by omega) (by omega), ih]
      by_cases e : p = at_ + i
      · subst e
        have : at_ + i - at_ = i := by omega
        simp [this, hw]
      · have : decide (p < at_ + i) = decide (p < at_ + (i + 1)) := by simp; omega
        simp [e, this]
    · rename_i hw
      rw [ih]
      by_cases e : p = at_ + i
      · subst e
        have : at_ + i - at_ = i := by omega
        simp [this, hw]
      · have : decide (p < at_ + i) = decide (p < at_ + (i + 1)) := by simp; omega
        simp [this]

theorem burst_sum {w : BitVec 32} {at_ : Nat} {L : List UInt8} (hat : at_ + 32 ≤ 8 * L.length) (hw : w ≠ 0#32) : crcSum L ≠ crcSum (burst w at_ L 32) := by
  refine crc_burst (burst_length w at_ L 32) hat hw fun p hp => ?_
  rw [burst_bit w at_ L hat 32 (by omega) p hp]
  congr 1
  by_cases h : p < at_ + 32
  · simp [h]
  · rw [BitVec.getLsbD_of_ge w (p - at_) (by omega)]; simp

theorem law_CrcBursts (v0 v1 v2 : Value) (h0 : Heap) (a0 : Arg EE h0 22 v0) (a1 : Arg EE h0 3 v1) (a2 : Arg EE h0 29 v2) :
    CallK Try.prog 5 #[v0, v1, v2] h0 fun v h' => v = .bool true ∧ Keep (fun _ => False) h0 h' := by
  obtain ⟨A, hA, hA1⟩ := arg_bytes a0
  obtain ⟨pa, ca, rfl, _, _, hA0⟩ := hA.out
  obtain ⟨at_, rfl, hat1, hat2⟩ := arg_int a1
  obtain ⟨w, rfl⟩ := arg_u32 a2
  refine CallK.of_vc EE_ok [0, 1, 2, 6, 7, 8, 10, 29, 33, 34, 40] Try.func5 rfl (Nat.le_of_ble_eq_true rfl) ?_
  have H := Hp.start h0
  conv => whnf
  refine CallK.mono (sums_call h0) ?_
  rintro _ h1 ⟨rfl, k1⟩
  replace H := H.and k1
  conv => whnf
  refine iteD (fun t => ?_) (fun t => ?_)
  · conv => whnf
    repeat (first | (refine cnd_intro (by first | (simp; done) | (simp; omega) | omega | (simp only [Bool.and_eq_true, decide_eq_true_eq]; omega)) ?_; conv => whnf) | (refine Hp.ld H 0 rfl rfl ?_; conv => whnf) | (refine Hp.ld H 1 rfl rfl ?_; conv => whnf) | (refine Hp.ld H 2 rfl rfl ?_; conv => whnf) | (refine Hp.ld H 3 rfl rfl ?_; conv => whnf) | (refine Hp.ld H 4 rfl rfl ?_; conv => whnf) | (refine Hp.ld H 5 rfl rfl ?_; conv => whnf) | (refine Hp.st H 0 rfl rfl rfl rfl rfl ?_; intro h H; conv => whnf) | (refine Hp.st H 1 rfl rfl rfl rfl rfl ?_; intro h H; conv => whnf) | (refine Hp.st H 2 rfl rfl rfl rfl rfl ?_; intro h H; conv => whnf) | (refine Hp.st H 3 rfl rfl rfl rfl rfl ?_; intro h H; conv => whnf) | (refine Hp.st H 4 rfl rfl rfl rfl rfl ?_; intro h H; conv => whnf) | (refine Hp.st H 5 rfl rfl rfl rfl rfl ?_; intro h H; conv => whnf) | (intro b h N; replace H := Hp.new H N; clear N; conv => whnf) | (refine Drawn.mk (by kernel_rfl) ?_; conv => whnf) | (refine FillK.row rfl ?_; conv => whnf) | (refine FillK.lit rfl ?_; conv => whnf) | (refine iteT (by omega) ?_; conv => whnf) | (refine iteF (by omega) ?_; conv => whnf) | (refine iteET (by omega) ?_; conv => whnf) | (refine iteEF (by omega) ?_; conv => whnf) | (refine iteNT (by omega) ?_; conv => whnf) | (refine iteNF (by omega) ?_; conv => whnf))
    exact ⟨rfl, H.keep⟩
  · conv => whnf
    refine iteE (fun u => ?_) (fun u => ?_)
    · conv => whnf
      repeat (first | (refine cnd_intro (by first | (simp; done) | (simp; omega) | omega | (simp only [Bool.and_eq_true, decide_eq_true_eq]; omega)) ?_; conv => whnf) | (refine Hp.ld H 0 rfl rfl ?_; conv => whnf) | (refine Hp.ld H 1 rfl rfl ?_; conv => whnf) | (refine Hp.ld H 2 rfl rfl ?_; conv => whnf) | (refine Hp.ld H 3 rfl rfl ?_; conv => whnf) | (refine Hp.ld H 4 rfl rfl ?_; conv => whnf) | (refine Hp.ld H 5 rfl rfl ?_; conv => whnf) | (refine Hp.st H 0 rfl rfl rfl rfl rfl ?_; intro h H; conv => whnf) | (refine Hp.st H 1 rfl rfl rfl rfl rfl ?_; intro h H; conv => whnf) | (refine Hp.st H 2 rfl rfl rfl rfl rfl ?_; intro h H; conv => whnf) | (refine Hp.st H 3 rfl rfl rfl rfl rfl ?_; intro h H; conv => whnf) | (refine Hp.st H 4 rfl rfl rfl rfl rfl ?_; intro h H; conv => whnf) | (refine Hp.st H 5 rfl rfl rfl rfl rfl ?_; intro h H; conv => whnf) | (intro b h N; replace H := Hp.new H N; clear N; conv => whnf) | (refine Drawn.mk (by kernel_rfl) ?_; conv => whnf) | (refine FillK.row rfl ?_; conv => whnf) | (refine FillK.lit rfl ?_; conv => whnf) | (refine iteT (by omega) ?_; conv => whnf) | (refine iteF (by omega) ?_; conv => whnf) | (refine iteET (by omega) ?_; conv => whnf) | (refine iteEF (by omega) ?_; conv => whnf) | (refine iteNT (by omega) ?_; conv => whnf) | (refine iteNF (by omega) ?_; conv => whnf))
      exact ⟨rfl, H.keep⟩
    · conv => whnf
      refine iteD (fun z => ?_) (fun z => ?_)
      · conv => whnf
        repeat (first | (refine cnd_intro (by first | (simp; done) | (simp; omega) | omega | (simp only [Bool.and_eq_true, decide_eq_true_eq]; omega)) ?_; conv => whnf) | (refine Hp.ld H 0 rfl rfl ?_; conv => whnf) | (refine Hp.ld H 1 rfl rfl ?_; conv => whnf) | (refine Hp.ld H 2 rfl rfl ?_; conv => whnf) | (refine Hp.ld H 3 rfl rfl ?_; conv => whnf) | (refine Hp.ld H 4 rfl rfl ?_; conv => whnf) | (refine Hp.ld H 5 rfl rfl ?_; conv => whnf) | (refine Hp.st H 0 rfl rfl rfl rfl rfl ?_; intro h H; conv => whnf) | (refine Hp.st H 1 rfl rfl rfl rfl rfl ?_; intro h H; conv => whnf) | (refine Hp.st H 2 rfl rfl rfl rfl rfl ?_; intro h H; conv => whnf) | (refine Hp.st H 3 rfl rfl rfl rfl rfl ?_; intro h H; conv => whnf) | (refine Hp.st H 4 rfl rfl rfl rfl rfl ?_; intro h H; conv => whnf) | (refine Hp.st H 5 rfl rfl rfl rfl rfl ?_; intro h H; conv => whnf) | (intro b h N; replace H := Hp.new H N; clear N; conv => whnf) | (refine Drawn.mk (by kernel_rfl) ?_; conv => whnf) | (refine FillK.row rfl ?_; conv => whnf) | (refine FillK.lit rfl ?_; conv => whnf) | (refine iteT (by omega) ?_; conv => whnf) | (refine iteF (by omega) ?_; conv => whnf) | (refine iteET (by omega) ?_; conv => whnf) | (refine iteEF (by omega) ?_; conv => whnf) | (refine iteNT (by omega) ?_; conv => whnf) | (refine iteNF (by omega) ?_; conv => whnf))
        exact ⟨rfl, H.keep⟩
      · conv => whnf
        rw [wrap64_id (n := 8 * (A.length : Int)) (by omega) (by omega), wrap64_id (n := 8 * (A.length : Int) - 32) (by omega) (by omega)]
        refine iteD (fun y => ?_) (fun y => ?_)
        · conv => whnf
          repeat (first | (refine cnd_intro (by first | (simp; done) | (simp; omega) | omega | (simp only [Bool.and_eq_true, decide_eq_true_eq]; omega)) ?_; conv => whnf) | (refine Hp.ld H 0 rfl rfl ?_; conv => whnf) | (refine Hp.ld H 1 rfl rfl ?_; conv => whnf) | (refine Hp.ld H 2 rfl rfl ?_; conv => whnf) | (refine Hp.ld H 3 rfl rfl ?_; conv => whnf) | (refine Hp.ld H 4 rfl rfl ?_; conv => whnf) | (refine Hp.ld H 5 rfl rfl ?_; conv => whnf) | (refine Hp.st H 0 rfl rfl rfl rfl rfl ?_; intro h H; conv => whnf) | (refine Hp.st H 1 rfl rfl rfl rfl rfl ?_; intro h H; conv => whnf) | (refine Hp.st H 2 rfl rfl rfl rfl rfl ?_; intro h H; conv => whnf) | (refine Hp.st H 3 rfl rfl rfl rfl rfl ?_; intro h H; conv => whnf) | (refine Hp.st H 4 rfl rfl rfl rfl rfl ?_; intro h H; conv => whnf) | (refine Hp.st H 5 rfl rfl rfl rfl rfl ?_; intro h H; conv => whnf) | (intro b h N; replace H := Hp.new H N; clear N; conv => whnf) | (refine Drawn.mk (by kernel_rfl) ?_; conv => whnf) | (refine FillK.row rfl ?_; conv => whnf) | (refine FillK.lit rfl ?_; conv => whnf) | (refine iteT (by omega) ?_; conv => whnf) | (refine iteF (by omega) ?_; conv => whnf) | (refine iteET (by omega) ?_; conv => whnf) | (refine iteEF (by omega) ?_; conv => whnf) | (refine iteNT (by omega) ?_; conv => whnf) | (refine iteNF (by omega) ?_; conv => whnf))
          exact ⟨rfl, H.keep⟩
        · obtain ⟨at_, rfl⟩ := Int.eq_ofNat_of_zero_le (show 0 ≤ at_ by omega)
          have hw : w ≠ 0#32 := by intro e; subst e; exact u rfl
          conv => whnf
          repeat (first | (refine cnd_intro (by first | (simp; done) | (simp; omega) | omega | (simp only [Bool.and_eq_true, decide_eq_true_eq]; omega)) ?_; conv => whnf) | (refine Hp.ld H 0 rfl rfl ?_; conv => whnf) | (refine Hp.ld H 1 rfl rfl ?_; conv => whnf) | (refine Hp.ld H 2 rfl rfl ?_; conv => whnf) | (refine Hp.ld H 3 rfl rfl ?_; conv => whnf) | (refine Hp.ld H 4 rfl rfl ?_; conv => whnf) | (refine Hp.ld H 5 rfl rfl ?_; conv => whnf) | (refine Hp.st H 0 rfl rfl rfl rfl rfl ?_; intro h H; conv => whnf) | (refine Hp.st H 1 rfl rfl rfl rfl rfl ?_; intro h H; conv => whnf) | (refine Hp.st H 2 rfl rfl rfl rfl rfl ?_; intro h H; conv => whnf) | (refine Hp.st H 3 rfl rfl rfl rfl rfl ?_; intro h H; conv => whnf) | (refine Hp.st H 4 rfl rfl rfl rfl rfl ?_; intro h H; conv => whnf) | (refine Hp.st H 5 rfl rfl rfl rfl rfl ?_; intro h H; conv => whnf) | (intro b h N; replace H := Hp.new H N; clear N; conv => whnf) | (refine Drawn.mk (by kernel_rfl) ?_; conv => whnf) | (refine FillK.row rfl ?_; conv => whnf) | (refine FillK.lit rfl ?_; conv => whnf) | (refine iteT (by omega) ?_; conv => whnf) | (refine iteF (by omega) ?_; conv => whnf) | (refine iteET (by omega) ?_; conv => whnf) | (refine iteEF (by omega) ?_; conv => whnf) | (refine iteNT (by omega) ?_; conv => whnf) | (refine iteNF (by omega) ?_; conv => whnf))
          replace H := H.slice 0 (e := 5) (size := 1) (n := 0) (c := 0) (xs := ([] : List UInt8).map byteV) rfl rfl rfl rfl
          refine Hp.appendB EE_ok (L := []) H 0 rfl (hA.keep H.keep) rfl rfl rfl (by simp; omega) ?_
          clear H
          intro v2 h2 H
          obtain ⟨b2, cap2, r2, rfl, hc2, hl2, H⟩ := H.opened 0 rfl (by simp; omega) (by decide)
          conv => whnf
          repeat (first | (refine cnd_intro (by first | (simp; done) | (simp; omega) | omega | (simp only [Bool.and_eq_true, decide_eq_true_eq]; omega)) ?_; conv => whnf) | (refine Hp.ld H 0 rfl rfl ?_; conv => whnf) | (refine Hp.ld H 1 rfl rfl ?_; conv => whnf) | (refine Hp.ld H 2 rfl rfl ?_; conv => whnf) | (refine Hp.ld H 3 rfl rfl ?_; conv => whnf) | (refine Hp.ld H 4 rfl rfl ?_; conv => whnf) | (refine Hp.ld H 5 rfl rfl ?_; conv => whnf) | (refine Hp.st H 0 rfl rfl rfl rfl rfl ?_; intro h H; conv => whnf) | (refine Hp.st H 1 rfl rfl rfl rfl rfl ?_; intro h H; conv => whnf) | (refine Hp.st H 2 rfl rfl rfl rfl rfl ?_; intro h H; conv => whnf) | (refine Hp.st H 3 rfl rfl rfl rfl rfl ?_; intro h H; conv => whnf) | (refine Hp.st H 4 rfl rfl rfl rfl rfl ?_; intro h H; conv => whnf) | (refine Hp.st H 5 rfl rfl rfl rfl rfl ?_; intro h H; conv => whnf) | (intro b h N; replace H := Hp.new H N; clear N; conv => whnf) | (refine Drawn.mk (by kernel_rfl) ?_; conv => whnf) | (refine FillK.row rfl ?_; conv => whnf) | (refine FillK.lit rfl ?_; conv => whnf) | (refine iteT (by omega) ?_; conv => whnf) | (refine iteF (by omega) ?_; conv => whnf) | (refine iteET (by omega) ?_; conv => whnf) | (refine iteEF (by omega) ?_; conv => whnf) | (refine iteNT (by omega) ?_; conv => whnf) | (refine iteNF (by omega) ?_; conv => whnf))
          refine ⟨Nat, [0, 1, 2, 6, 7, 10, 29], fun i => [(33, .int .i64 (i : Nat))], fun i h' => i ≤ 32 ∧ Hp h0 h' [Res.ob b2 (.cells ((burst w at_ A i).map byteV ++ r2).toArray 5 (0, 0))], fun i => 32 - i, ?_⟩
          conv => whnf
          refine ⟨⟨0, ⟨rfl, trivial⟩, by omega, H⟩, ?_⟩
          clear H
          rintro i h3 ⟨iA, H⟩
          conv => whnf
          refine iteD (fun r => ?_) (fun r => ?_)
          · have hi : i < 32 := by omega
            have hb : bAnd .u32 (bShr .u32 (w.toNat : Int) (i : Int)) 1 = (if w.getLsbD i then 1 else 0 : Int) := by
              rw [bShr_bv (by rfl), low_bit]
              simp
            have hbl := burst_length w at_ A i
            conv => whnf
            repeat (first | (refine cnd_intro (by first | (simp; done) | (simp; omega) | omega | (simp only [Bool.and_eq_true, decide_eq_true_eq]; omega)) ?_; conv => whnf) | (refine Hp.ld H 0 rfl rfl ?_; conv => whnf) | (refine Hp.ld H 1 rfl rfl ?_; conv => whnf) | (refine Hp.ld H 2 rfl rfl ?_; conv => whnf) | (refine Hp.ld H 3 rfl rfl ?_; conv => whnf) | (refine Hp.ld H 4 rfl rfl ?_; conv => whnf) | (refine Hp.ld H 5 rfl rfl ?_; conv => whnf) | (refine Hp.st H 0 rfl rfl rfl rfl rfl ?_; intro h H; conv => whnf) | (refine Hp.st H 1 rfl rfl rfl rfl rfl ?_; intro h H; conv => whnf) | (refine Hp.st H 2 rfl rfl rfl rfl rfl ?_; intro h H; conv => whnf) | (refine Hp.st H 3 rfl rfl rfl rfl rfl ?_; intro h H; conv => whnf) | (refine Hp.st H 4 rfl rfl rfl rfl rfl ?_; intro h H; conv => whnf) | (refine Hp.st H 5 rfl rfl rfl rfl rfl ?_; intro h H; conv => whnf) | (intro b h N; replace H := Hp.new H N; clear N; conv => whnf) | (refine Drawn.mk (by kernel_rfl) ?_; conv => whnf) | (refine FillK.row rfl ?_; conv => whnf) | (refine FillK.lit rfl ?_; conv => whnf) | (refine iteT (by omega) ?_; conv => whnf) | (refine iteF (by omega) ?_; conv => whnf) | (refine iteET (by omega) ?_; conv => whnf) | (refine iteEF (by omega) ?_; conv => whnf) | (refine iteNT (by omega) ?_; conv => whnf) | (refine iteNF (by omega) ?_; conv => whnf))
            rw [hb]
            have fin : ∀ h', Hp h0 h' [Res.ob b2 (.cells ((burst w at_ A (i + 1)).map byteV ++ r2).toArray 5 (0, 0))] → (i + 1 ≤ 32 ∧ Hp h0 h' [Res.ob b2 (.cells ((burst w at_ A (i + 1)).map byteV ++ r2).toArray 5 (0, 0))]) := fun h' x => ⟨by omega, x⟩
            refine iteE (fun e => ?_) (fun e => ?_)
            · have hw1 : w.getLsbD i = true := by
                cases hx : w.getLsbD i with
                | true => rfl
                | false => rw [hx] at e; simp at e
              have w1 : IntKind.i64.wrap ((at_ : Int) + (i : Int)) = ((at_ + i : Nat) : Int) := by rw [wrap64_id (by omega) (by omega)]; omega
              have w2 : IntKind.i64.wrap (((at_ + i : Nat) : Int).tdiv 8) = (((at_ + i) / 8 : Nat) : Int) := by
                rw [Int.tdiv_eq_ediv_of_nonneg (by omega), wrap64_id (by omega) (by omega)]; omega
              have w3 : ((at_ + i : Nat) : Int).tmod 8 = (((at_ + i) % 8 : Nat) : Int) := by
                rw [Int.tmod_eq_emod_of_nonneg (by omega)]; omega
              have w4 : bShl .u8 1 (((at_ + i) % 8 : Nat) : Int) = (((UInt8.ofNat (2 ^ ((at_ + i) % 8))).toNat : Nat) : Int) := by
                have := bShl_u8 (a := 1) (by omega) ((at_ + i) % 8)
                rw [Nat.one_mul] at this
                rw [show (1 : Int) = ((1 : Nat) : Int) by rfl, this]
                simp
              obtain ⟨x, hx⟩ := list_at (L := burst w at_ A i) (i := (at_ + i) / 8) (by omega)
              have hst : (burst w at_ A i).set ((at_ + i) / 8) (x ^^^ UInt8.ofNat (2 ^ ((at_ + i) % 8))) = burst w at_ A (i + 1) := by
                show _ = (if w.getLsbD i then _ else _)
                rw [if_pos hw1, List.getD_eq_getElem?_getD, hx]; rfl
              have w5 : bXor .u8 (x.toNat : Int) ((UInt8.ofNat (2 ^ ((at_ + i) % 8))).toNat : Int) = ((x ^^^ UInt8.ofNat (2 ^ ((at_ + i) % 8)) : UInt8).toNat : Int) := bXor8 x.toBitVec (UInt8.ofNat (2 ^ ((at_ + i) % 8))).toBitVec
              conv => whnf
              refine Drawn.mk (by kernel_rfl) ?_
              conv => whnf
              rw [w1, w2]
              conv => whnf
              repeat (first | (refine cnd_intro (by first | (simp; done) | (simp; omega) | omega | (simp only [Bool.and_eq_true, decide_eq_true_eq]; omega)) ?_; conv => whnf) | (refine Hp.ld H 0 rfl rfl ?_; conv => whnf) | (refine Hp.ld H 1 rfl rfl ?_; conv => whnf) | (refine Hp.ld H 2 rfl rfl ?_; conv => whnf) | (refine Hp.ld H 3 rfl rfl ?_; conv => whnf) | (refine Hp.ld H 4 rfl rfl ?_; conv => whnf) | (refine Hp.ld H 5 rfl rfl ?_; conv => whnf) | (refine Hp.st H 0 rfl rfl rfl rfl rfl ?_; intro h H; conv => whnf) | (refine Hp.st H 1 rfl rfl rfl rfl rfl ?_; intro h H; conv => whnf) | (refine Hp.st H 2 rfl rfl rfl rfl rfl ?_; intro h H; conv => whnf) | (refine Hp.st H 3 rfl rfl rfl rfl rfl ?_; intro h H; conv => whnf) | (refine Hp.st H 4 rfl rfl rfl rfl rfl ?_; intro h H; conv => whnf) | (refine Hp.st H 5 rfl rfl rfl rfl rfl ?_; intro h H; conv => whnf) | (intro b h N; replace H := Hp.new H N; clear N; conv => whnf) | (refine Drawn.mk (by kernel_rfl) ?_; conv => whnf) | (refine FillK.row rfl ?_; conv => whnf) | (refine FillK.lit rfl ?_; conv => whnf) | (refine iteT (by omega) ?_; conv => whnf) | (refine iteF (by omega) ?_; conv => whnf) | (refine iteET (by omega) ?_; conv => whnf) | (refine iteEF (by omega) ?_; conv => whnf) | (refine iteNT (by omega) ?_; conv => whnf) | (refine iteNF (by omega) ?_; conv => whnf))
              refine bytes_ld (H.bytesAt 0 rfl (by rw [hbl]; rfl) hc2) rfl hx (by first | omega | (simp; done) | (simp; omega)) ?_
              conv => whnf
              rw [w1, w3]
              conv => whnf
              repeat (first | (refine cnd_intro (by first | (simp; done) | (simp; omega) | omega | (simp only [Bool.and_eq_true, decide_eq_true_eq]; omega)) ?_; conv => whnf) | (refine Hp.ld H 0 rfl rfl ?_; conv => whnf) | (refine Hp.ld H 1 rfl rfl ?_; conv => whnf) | (refine Hp.ld H 2 rfl rfl ?_; conv => whnf) | (refine Hp.ld H 3 rfl rfl ?_; conv => whnf) | (refine Hp.ld H 4 rfl rfl ?_; conv => whnf) | (refine Hp.ld H 5 rfl rfl ?_; conv => whnf) | (refine Hp.st H 0 rfl rfl rfl rfl rfl ?_; intro h H; conv => whnf) | (refine Hp.st H 1 rfl rfl rfl rfl rfl ?_; intro h H; conv => whnf) | (refine Hp.st H 2 rfl rfl rfl rfl rfl ?_; intro h H; conv => whnf) | (refine Hp.st H 3 rfl rfl rfl rfl rfl ?_; intro h H; conv => whnf) | (refine Hp.st H 4 rfl rfl rfl rfl rfl ?_; intro h H; conv => whnf) | (refine Hp.st H 5 rfl rfl rfl rfl rfl ?_; intro h H; conv => whnf) | (intro b h N; replace H := Hp.new H N; clear N; conv => whnf) | (refine Drawn.mk (by kernel_rfl) ?_; conv => whnf) | (refine FillK.row rfl ?_; conv => whnf) | (refine FillK.lit rfl ?_; conv => whnf) | (refine iteT (by omega) ?_; conv => whnf) | (refine iteF (by omega) ?_; conv => whnf) | (refine iteET (by omega) ?_; conv => whnf) | (refine iteEF (by omega) ?_; conv => whnf) | (refine iteNT (by omega) ?_; conv => whnf) | (refine iteNF (by omega) ?_; conv => whnf))
              rw [w4, w5]
              refine Hp.stAt H 0 rfl (y := u8T) rfl rfl rfl rfl (o := (at_ + i) / 8) (by first | omega | (simp; done) | (simp; omega)) (by simp; omega) ?_
              intro h4 H
              rw [List.set_append_left _ _ (by simp; omega)] at H
              have e9 : (List.map byteV (burst w at_ A i)).set ((at_ + i) / 8) (.int .u8 ((x ^^^ UInt8.ofNat (2 ^ ((at_ + i) % 8)) : UInt8).toNat : Int)) = (burst w at_ A (i + 1)).map byteV := by rw [← hst, List.map_set]; rfl
              rw [e9] at H
              conv => whnf
              repeat (first | (refine cnd_intro (by first | (simp; done) | (simp; omega) | omega | (simp only [Bool.and_eq_true, decide_eq_true_eq]; omega)) ?_; conv => whnf) | (refine Hp.ld H 0 rfl rfl ?_; conv => whnf) | (refine Hp.ld H 1 rfl rfl ?_; conv => whnf) | (refine Hp.ld H 2 rfl rfl ?_; conv => whnf) | (refine Hp.ld H 3 rfl rfl ?_; conv => whnf) | (refine Hp.ld H 4 rfl rfl ?_; conv => whnf) | (refine Hp.ld H 5 rfl rfl ?_; conv => whnf) | (refine Hp.st H 0 rfl rfl rfl rfl rfl ?_; intro h H; conv => whnf) | (refine Hp.st H 1 rfl rfl rfl rfl rfl ?_; intro h H; conv => whnf) | (refine Hp.st H 2 rfl rfl rfl rfl rfl ?_; intro h H; conv => whnf) | (refine Hp.st H 3 rfl rfl rfl rfl rfl ?_; intro h H; conv => whnf) | (refine Hp.st H 4 rfl rfl rfl rfl rfl ?_; intro h H; conv => whnf) | (refine Hp.st H 5 rfl rfl rfl rfl rfl ?_; intro h H; conv => whnf) | (intro b h N; replace H := Hp.new H N; clear N; conv => whnf) | (refine Drawn.mk (by kernel_rfl) ?_; conv => whnf) | (refine FillK.row rfl ?_; conv => whnf) | (refine FillK.lit rfl ?_; conv => whnf) | (refine iteT (by omega) ?_; conv => whnf) | (refine iteF (by omega) ?_; conv => whnf) | (refine iteET (by omega) ?_; conv => whnf) | (refine iteEF (by omega) ?_; conv => whnf) | (refine iteNT (by omega) ?_; conv => whnf) | (refine iteNF (by omega) ?_; conv => whnf))
              exact ⟨i + 1, ⟨(by show Value.int .i64 _ = _; rw [wrap64_id (by omega) (by omega)]; first | rfl | (congr 1; omega)), trivial⟩, (by repeat (first | exact trivial | refine ⟨rfl, ?_⟩)), fin _ H, by show 32 - (i + 1) < 32 - i; omega⟩
            · have hw1 : w.getLsbD i = false := by
                cases hx : w.getLsbD i with
                | false => rfl
                | true => rw [hx] at e; simp at e
              have e9 : burst w at_ A (i + 1) = burst w at_ A i := by
                show (if w.getLsbD i then _ else _) = _
                rw [hw1]; rfl
              rw [← e9] at H
              conv => whnf
              repeat (first | (refine cnd_intro (by first | (simp; done) | (simp; omega) | omega | (simp only [Bool.and_eq_true, decide_eq_true_eq]; omega)) ?_; conv => whnf) | (refine Hp.ld H 0 rfl rfl ?_; conv => whnf) | (refine Hp.ld H 1 rfl rfl ?_; conv => whnf) | (refine Hp.ld H 2 rfl rfl ?_; conv => whnf) | (refine Hp.ld H 3 rfl rfl ?_; conv => whnf) | (refine Hp.ld H 4 rfl rfl ?_; conv => whnf) | (refine Hp.ld H 5 rfl rfl ?_; conv => whnf) | (refine Hp.st H 0 rfl rfl rfl rfl rfl ?_; intro h H; conv => whnf) | (refine Hp.st H 1 rfl rfl rfl rfl rfl ?_; intro h H; conv => whnf) | (refine Hp.st H 2 rfl rfl rfl rfl rfl ?_; intro h H; conv => whnf) | (refine Hp.st H 3 rfl rfl rfl rfl rfl ?_; intro h H; conv => whnf) | (refine Hp.st H 4 rfl rfl rfl rfl rfl ?_; intro h H; conv => whnf) | (refine Hp.st H 5 rfl rfl rfl rfl rfl ?_; intro h H; conv => whnf) | (intro b h N; replace H := Hp.new H N; clear N; conv => whnf) | (refine Drawn.mk (by kernel_rfl) ?_; conv => whnf) | (refine FillK.row rfl ?_; conv => whnf) | (refine FillK.lit rfl ?_; conv => whnf) | (refine iteT (by omega) ?_; conv => whnf) | (refine iteF (by omega) ?_; conv => whnf) | (refine iteET (by omega) ?_; conv => whnf) | (refine iteEF (by omega) ?_; conv => whnf) | (refine iteNT (by omega) ?_; conv => whnf) | (refine iteNF (by omega) ?_; conv => whnf))
              exact ⟨i + 1, ⟨(by show Value.int .i64 _ = _; rw [wrap64_id (by omega) (by omega)]; first | rfl | (congr 1; omega)), trivial⟩, (by repeat (first | exact trivial | refine ⟨rfl, ?_⟩)), fin _ H, by show 32 - (i + 1) < 32 - i; omega⟩
          · obtain rfl : i = 32 := by omega
            have hlb := burst_length w at_ A 32
            conv => whnf
            repeat (first | (refine cnd_intro (by first | (simp; done) | (simp; omega) | omega | (simp only [Bool.and_eq_true, decide_eq_true_eq]; omega)) ?_; conv => whnf) | (refine Hp.ld H 0 rfl rfl ?_; conv => whnf) | (refine Hp.ld H 1 rfl rfl ?_; conv => whnf) | (refine Hp.ld H 2 rfl rfl ?_; conv => whnf) | (refine Hp.ld H 3 rfl rfl ?_; conv => whnf) | (refine Hp.ld H 4 rfl rfl ?_; conv => whnf) | (refine Hp.ld H 5 rfl rfl ?_; conv => whnf) | (refine Hp.st H 0 rfl rfl rfl rfl rfl ?_; intro h H; conv => whnf) | (refine Hp.st H 1 rfl rfl rfl rfl rfl ?_; intro h H; conv => whnf) | (refine Hp.st H 2 rfl rfl rfl rfl rfl ?_; intro h H; conv => whnf) | (refine Hp.st H 3 rfl rfl rfl rfl rfl ?_; intro h H; conv => whnf) | (refine Hp.st H 4 rfl rfl rfl rfl rfl ?_; intro h H; conv => whnf) | (refine Hp.st H 5 rfl rfl rfl rfl rfl ?_; intro h H; conv => whnf) | (intro b h N; replace H := Hp.new H N; clear N; conv => whnf) | (refine Drawn.mk (by kernel_rfl) ?_; conv => whnf) | (refine FillK.row rfl ?_; conv => whnf) | (refine FillK.lit rfl ?_; conv => whnf) | (refine iteT (by omega) ?_; conv => whnf) | (refine iteF (by omega) ?_; conv => whnf) | (refine iteET (by omega) ?_; conv => whnf) | (refine iteEF (by omega) ?_; conv => whnf) | (refine iteNT (by omega) ?_; conv => whnf) | (refine iteNF (by omega) ?_; conv => whnf))
            refine CallK.mono (sum1_call _ _ _ A (H.get 0 rfl) (hA.keep H.keep) (by omega) 1) ?_
            rintro _ h5 ⟨rfl, k5⟩
            replace H := H.and k5
            conv => whnf
            repeat (first | (refine cnd_intro (by first | (simp; done) | (simp; omega) | omega | (simp only [Bool.and_eq_true, decide_eq_true_eq]; omega)) ?_; conv => whnf) | (refine Hp.ld H 0 rfl rfl ?_; conv => whnf) | (refine Hp.ld H 1 rfl rfl ?_; conv => whnf) | (refine Hp.ld H 2 rfl rfl ?_; conv => whnf) | (refine Hp.ld H 3 rfl rfl ?_; conv => whnf) | (refine Hp.ld H 4 rfl rfl ?_; conv => whnf) | (refine Hp.ld H 5 rfl rfl ?_; conv => whnf) | (refine Hp.st H 0 rfl rfl rfl rfl rfl ?_; intro h H; conv => whnf) | (refine Hp.st H 1 rfl rfl rfl rfl rfl ?_; intro h H; conv => whnf) | (refine Hp.st H 2 rfl rfl rfl rfl rfl ?_; intro h H; conv => whnf) | (refine Hp.st H 3 rfl rfl rfl rfl rfl ?_; intro h H; conv => whnf) | (refine Hp.st H 4 rfl rfl rfl rfl rfl ?_; intro h H; conv => whnf) | (refine Hp.st H 5 rfl rfl rfl rfl rfl ?_; intro h H; conv => whnf) | (intro b h N; replace H := Hp.new H N; clear N; conv => whnf) | (refine Drawn.mk (by kernel_rfl) ?_; conv => whnf) | (refine FillK.row rfl ?_; conv => whnf) | (refine FillK.lit rfl ?_; conv => whnf) | (refine iteT (by omega) ?_; conv => whnf) | (refine iteF (by omega) ?_; conv => whnf) | (refine iteET (by omega) ?_; conv => whnf) | (refine iteEF (by omega) ?_; conv => whnf) | (refine iteNT (by omega) ?_; conv => whnf) | (refine iteNF (by omega) ?_; conv => whnf))
            refine CallK.mono (sum1_call _ _ _ (burst w at_ A 32) (H.get 0 rfl) (H.bytesAt 2 rfl (by rw [hlb]; rfl) hc2) (by omega) 1) ?_
            rintro _ h6 ⟨rfl, k6⟩
            replace H := H.and k6
            conv => whnf
            refine ⟨?_, H.keep⟩
            have hne := burst_sum (w := w) (at_ := at_) (L := A) (by omega) hw
            rw [tup_one]
            congr 1
            rw [bne_iff_ne]
            intro e
            apply hne
            apply BitVec.eq_of_toNat_eq
            omega
end Go.Proofs.Ytlgekbknebbnlaa
