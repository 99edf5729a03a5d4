import Derived.Test.YtlgekbknebbnlaaCrcDiv
import Derived.Test.YtlgekbknebbnlaaBytes
namespace Go.Proofs.Ytlgekbknebbnlaa
open Go.Vc
set_option maxRecDepth 10000
set_option maxHeartbeats 4000000

/-! ### the document's sum -/

def bitI (b : Bool) : Int := if b then 1 else 0
def bitV (b : Bool) : Value := .int .i64 (bitI b)
def iT : Ty := ⟨.int .i64, 1, 8, false, some (.int .i64 0)⟩

theorem bitV_one (l : List Bool) : (l.map bitV).all oneCell = true := by rw [List.all_map]; simp [bitV, oneCell]
theorem bitI_lt (b : Bool) : 0 ≤ bitI b ∧ bitI b ≤ 1 := by cases b <;> decide

theorem byte_bit (x : UInt8) (k : Nat) : ((x.toNat / 2 ^ k : Nat) : Int).tmod 2 = bitI (x.toBitVec.getLsbD k) := by
  have e : x.toBitVec.getLsbD k = decide (x.toNat / 2 ^ k % 2 = 1) := by
    rw [BitVec.getLsbD, Nat.testBit_eq_decide_div_mod_eq]; rfl
  rw [e]
  generalize x.toNat / 2 ^ k = q
  rw [Int.tmod_eq_emod_of_nonneg (by omega)]
  unfold bitI
  by_cases h : q % 2 = 1
  · rw [decide_eq_true h, if_pos rfl]; omega
  · rw [decide_eq_false h, if_neg (by decide)]; omega

theorem bits8_take (x : UInt8) {k : Nat} (h : k < 8) : (bits8 x).take (k + 1) = (bits8 x).take k ++ [x.toBitVec.getLsbD k] := by
  rw [List.take_add_one]
  congr 1
  simp [bits8, List.getElem?_range h]

theorem refBitsOf_call (h0 : Heap) (v : Value) (L : List UInt8) (hv : BytesV h0 v L) (hl : L.length ≤ 1000000) :
    CallK Try.prog 66 #[v] h0 fun v h' => Keep (fun _ => False) h0 h' ∧ OwnS h0.size h' 3 1 v (8 * L.length) ((bitsOf L).map bitV) := by
  obtain ⟨A, c, rfl, hc, hr, hA0⟩ := hv.out
  refine CallK.of_vc EW_ok [0, 2, 3, 4, 5, 9, 13] Try.func66 rfl (Nat.le_of_ble_eq_true rfl) ?_
  have H := (Hp.start h0).nil 3 1
  conv => whnf
  repeat (first | (refine cnd_intro (by first | (simp; done) | (simp; omega) | omega | (simp only [Bool.and_eq_true, decide_eq_true_eq]; omega)) ?_; conv => whnf) | (refine Hp.ld H 0 rfl rfl ?_; conv => whnf) | (refine Hp.ld H 1 rfl rfl ?_; conv => whnf) | (refine Hp.ld H 2 rfl rfl ?_; conv => whnf) | (refine Hp.ld H 3 rfl rfl ?_; conv => whnf) | (refine Hp.ld H 4 rfl rfl ?_; conv => whnf) | (refine Hp.ld H 5 rfl rfl ?_; conv => whnf) | (refine Hp.st H 0 rfl rfl rfl rfl rfl ?_; intro h H; conv => whnf) | (refine Hp.st H 1 rfl rfl rfl rfl rfl ?_; intro h H; conv => whnf) | (refine Hp.st H 2 rfl rfl rfl rfl rfl ?_; intro h H; conv => whnf) | (refine Hp.st H 3 rfl rfl rfl rfl rfl ?_; intro h H; conv => whnf) | (refine Hp.st H 4 rfl rfl rfl rfl rfl ?_; intro h H; conv => whnf) | (refine Hp.st H 5 rfl rfl rfl rfl rfl ?_; intro h H; conv => whnf) | (intro b h N; replace H := Hp.new H N; clear N; conv => whnf) | (refine Drawn.mk (by kernel_rfl) ?_; conv => whnf) | (refine FillK.row rfl ?_; conv => whnf) | (refine FillK.lit rfl ?_; conv => whnf) | (refine WrapK.i64 (by omega) (by omega) ?_; conv => whnf) | (refine WrapK.u64 (by omega) (by omega) ?_; conv => whnf) | (refine WrapK.u32 (by omega) (by omega) ?_; conv => whnf) | (refine WrapK.u8 (by omega) (by omega) ?_; conv => whnf) | (refine iteT (by omega) ?_; conv => whnf) | (refine iteF (by omega) ?_; conv => whnf) | (refine iteET (by omega) ?_; conv => whnf) | (refine iteEF (by omega) ?_; conv => whnf) | (refine iteNT (by omega) ?_; conv => whnf) | (refine iteNF (by omega) ?_; conv => whnf))
  refine ⟨Nat × Value, [0, 2], fun i => [(4, .int .i64 (i.1 : Nat)), (3, i.2)], fun i h' => i.1 ≤ L.length ∧ Hp h0 h' [Res.own i.2 3 1 (8 * i.1) ((bitsOf (L.take i.1)).map bitV)], fun i => L.length - i.1, ?_⟩
  conv => whnf
  refine ⟨⟨(0, .slice none 0 0), ⟨rfl, rfl, trivial⟩, by show 0 ≤ L.length; omega, H⟩, ?_⟩
  clear H
  rintro ⟨i, s⟩ h3 ⟨iA, H⟩
  dsimp only at iA H ⊢
  by_cases ci : i = L.length
  · subst ci
    rw [List.take_of_length_le (Nat.le_refl _)] at H
    conv => whnf
    repeat (first | (refine cnd_intro (by first | (simp; done) | (simp; omega) | omega | (simp only [Bool.and_eq_true, decide_eq_true_eq]; omega)) ?_; conv => whnf) | (refine Hp.ld H 0 rfl rfl ?_; conv => whnf) | (refine Hp.ld H 1 rfl rfl ?_; conv => whnf) | (refine Hp.ld H 2 rfl rfl ?_; conv => whnf) | (refine Hp.ld H 3 rfl rfl ?_; conv => whnf) | (refine Hp.ld H 4 rfl rfl ?_; conv => whnf) | (refine Hp.ld H 5 rfl rfl ?_; conv => whnf) | (refine Hp.st H 0 rfl rfl rfl rfl rfl ?_; intro h H; conv => whnf) | (refine Hp.st H 1 rfl rfl rfl rfl rfl ?_; intro h H; conv => whnf) | (refine Hp.st H 2 rfl rfl rfl rfl rfl ?_; intro h H; conv => whnf) | (refine Hp.st H 3 rfl rfl rfl rfl rfl ?_; intro h H; conv => whnf) | (refine Hp.st H 4 rfl rfl rfl rfl rfl ?_; intro h H; conv => whnf) | (refine Hp.st H 5 rfl rfl rfl rfl rfl ?_; intro h H; conv => whnf) | (intro b h N; replace H := Hp.new H N; clear N; conv => whnf) | (refine Drawn.mk (by kernel_rfl) ?_; conv => whnf) | (refine FillK.row rfl ?_; conv => whnf) | (refine FillK.lit rfl ?_; conv => whnf) | (refine WrapK.i64 (by omega) (by omega) ?_; conv => whnf) | (refine WrapK.u64 (by omega) (by omega) ?_; conv => whnf) | (refine WrapK.u32 (by omega) (by omega) ?_; conv => whnf) | (refine WrapK.u8 (by omega) (by omega) ?_; conv => whnf) | (refine iteT (by omega) ?_; conv => whnf) | (refine iteF (by omega) ?_; conv => whnf) | (refine iteET (by omega) ?_; conv => whnf) | (refine iteEF (by omega) ?_; conv => whnf) | (refine iteNT (by omega) ?_; conv => whnf) | (refine iteNF (by omega) ?_; conv => whnf))
    exact ⟨H.keep, H.own_out 0 rfl⟩
  obtain ⟨x, hx⟩ := list_at (L := L) (i := i) (by omega)
  obtain ⟨b, o, rfl⟩ := hv.some (by omega)
  conv => whnf
  repeat (first | (refine cnd_intro (by first | (simp; done) | (simp; omega) | omega | (simp only [Bool.and_eq_true, decide_eq_true_eq]; omega)) ?_; conv => whnf) | (refine Hp.ld H 0 rfl rfl ?_; conv => whnf) | (refine Hp.ld H 1 rfl rfl ?_; conv => whnf) | (refine Hp.ld H 2 rfl rfl ?_; conv => whnf) | (refine Hp.ld H 3 rfl rfl ?_; conv => whnf) | (refine Hp.ld H 4 rfl rfl ?_; conv => whnf) | (refine Hp.ld H 5 rfl rfl ?_; conv => whnf) | (refine Hp.st H 0 rfl rfl rfl rfl rfl ?_; intro h H; conv => whnf) | (refine Hp.st H 1 rfl rfl rfl rfl rfl ?_; intro h H; conv => whnf) | (refine Hp.st H 2 rfl rfl rfl rfl rfl ?_; intro h H; conv => whnf) | (refine Hp.st H 3 rfl rfl rfl rfl rfl ?_; intro h H; conv => whnf) | (refine Hp.st H 4 rfl rfl rfl rfl rfl ?_; intro h H; conv => whnf) | (refine Hp.st H 5 rfl rfl rfl rfl rfl ?_; intro h H; conv => whnf) | (intro b h N; replace H := Hp.new H N; clear N; conv => whnf) | (refine Drawn.mk (by kernel_rfl) ?_; conv => whnf) | (refine FillK.row rfl ?_; conv => whnf) | (refine FillK.lit rfl ?_; conv => whnf) | (refine WrapK.i64 (by omega) (by omega) ?_; conv => whnf) | (refine WrapK.u64 (by omega) (by omega) ?_; conv => whnf) | (refine WrapK.u32 (by omega) (by omega) ?_; conv => whnf) | (refine WrapK.u8 (by omega) (by omega) ?_; conv => whnf) | (refine iteT (by omega) ?_; conv => whnf) | (refine iteF (by omega) ?_; conv => whnf) | (refine iteET (by omega) ?_; conv => whnf) | (refine iteEF (by omega) ?_; conv => whnf) | (refine iteNT (by omega) ?_; conv => whnf) | (refine iteNF (by omega) ?_; conv => whnf))
  refine ⟨Nat × Value, [0, 2, 4, 9], fun k => [(5, .int .i64 (k.1 : Nat)), (3, k.2)], fun k h' => k.1 ≤ 8 ∧ Hp h0 h' [Res.own k.2 3 1 (8 * i + k.1) ((bitsOf (L.take i) ++ (bits8 x).take k.1).map bitV)], fun k => 8 - k.1, ?_⟩
  conv => whnf
  refine ⟨⟨(0, s), ⟨rfl, rfl, trivial⟩, by show 0 ≤ 8; omega, by simpa using H⟩, ?_⟩
  clear H
  rintro ⟨k, s2⟩ h4 ⟨kA, H⟩
  dsimp only at kA H ⊢
  by_cases ck : k = 8
  · subst ck
    have e1 : bitsOf (L.take i) ++ (bits8 x).take 8 = bitsOf (L.take (i + 1)) := by
      rw [List.take_add_one (l := L), hx, List.take_of_length_le (l := bits8 x) (by rw [bits8_length]; omega)]
      simp [bitsOf]
    rw [e1] at H
    conv => whnf
    repeat (first | (refine cnd_intro (by first | (simp; done) | (simp; omega) | omega | (simp only [Bool.and_eq_true, decide_eq_true_eq]; omega)) ?_; conv => whnf) | (refine Hp.ld H 0 rfl rfl ?_; conv => whnf) | (refine Hp.ld H 1 rfl rfl ?_; conv => whnf) | (refine Hp.ld H 2 rfl rfl ?_; conv => whnf) | (refine Hp.ld H 3 rfl rfl ?_; conv => whnf) | (refine Hp.ld H 4 rfl rfl ?_; conv => whnf) | (refine Hp.ld H 5 rfl rfl ?_; conv => whnf) | (refine Hp.st H 0 rfl rfl rfl rfl rfl ?_; intro h H; conv => whnf) | (refine Hp.st H 1 rfl rfl rfl rfl rfl ?_; intro h H; conv => whnf) | (refine Hp.st H 2 rfl rfl rfl rfl rfl ?_; intro h H; conv => whnf) | (refine Hp.st H 3 rfl rfl rfl rfl rfl ?_; intro h H; conv => whnf) | (refine Hp.st H 4 rfl rfl rfl rfl rfl ?_; intro h H; conv => whnf) | (refine Hp.st H 5 rfl rfl rfl rfl rfl ?_; intro h H; conv => whnf) | (intro b h N; replace H := Hp.new H N; clear N; conv => whnf) | (refine Drawn.mk (by kernel_rfl) ?_; conv => whnf) | (refine FillK.row rfl ?_; conv => whnf) | (refine FillK.lit rfl ?_; conv => whnf) | (refine WrapK.i64 (by omega) (by omega) ?_; conv => whnf) | (refine WrapK.u64 (by omega) (by omega) ?_; conv => whnf) | (refine WrapK.u32 (by omega) (by omega) ?_; conv => whnf) | (refine WrapK.u8 (by omega) (by omega) ?_; conv => whnf) | (refine iteT (by omega) ?_; conv => whnf) | (refine iteF (by omega) ?_; conv => whnf) | (refine iteET (by omega) ?_; conv => whnf) | (refine iteEF (by omega) ?_; conv => whnf) | (refine iteNT (by omega) ?_; conv => whnf) | (refine iteNF (by omega) ?_; conv => whnf))
    exact ⟨(i + 1, s2), ⟨(by first | rfl | (show Value.int .i64 _ = _; congr 1; omega) | (show Value.int .i64 _ = _; rw [wrap64_id (by omega) (by omega)]; first | rfl | (congr 1; omega))), rfl, trivial⟩, (by repeat (first | exact trivial | refine ⟨rfl, ?_⟩)), ⟨by show i + 1 ≤ L.length; omega, H⟩, by show L.length - (i + 1) < L.length - i; omega⟩
  have hx8 := x.toNat_lt
  have hbt := byte_bit x k
  have hle : x.toNat / 2 ^ k ≤ x.toNat := Nat.div_le_self _ _
  have htk := bits8_take x (k := k) (by omega)
  conv => whnf
  repeat (first | (refine cnd_intro (by first | (simp; done) | (simp; omega) | omega | (simp only [Bool.and_eq_true, decide_eq_true_eq]; omega)) ?_; conv => whnf) | (refine Hp.ld H 0 rfl rfl ?_; conv => whnf) | (refine Hp.ld H 1 rfl rfl ?_; conv => whnf) | (refine Hp.ld H 2 rfl rfl ?_; conv => whnf) | (refine Hp.ld H 3 rfl rfl ?_; conv => whnf) | (refine Hp.ld H 4 rfl rfl ?_; conv => whnf) | (refine Hp.ld H 5 rfl rfl ?_; conv => whnf) | (refine Hp.st H 0 rfl rfl rfl rfl rfl ?_; intro h H; conv => whnf) | (refine Hp.st H 1 rfl rfl rfl rfl rfl ?_; intro h H; conv => whnf) | (refine Hp.st H 2 rfl rfl rfl rfl rfl ?_; intro h H; conv => whnf) | (refine Hp.st H 3 rfl rfl rfl rfl rfl ?_; intro h H; conv => whnf) | (refine Hp.st H 4 rfl rfl rfl rfl rfl ?_; intro h H; conv => whnf) | (refine Hp.st H 5 rfl rfl rfl rfl rfl ?_; intro h H; conv => whnf) | (intro b h N; replace H := Hp.new H N; clear N; conv => whnf) | (refine Drawn.mk (by kernel_rfl) ?_; conv => whnf) | (refine FillK.row rfl ?_; conv => whnf) | (refine FillK.lit rfl ?_; conv => whnf) | (refine WrapK.i64 (by omega) (by omega) ?_; conv => whnf) | (refine WrapK.u64 (by omega) (by omega) ?_; conv => whnf) | (refine WrapK.u32 (by omega) (by omega) ?_; conv => whnf) | (refine WrapK.u8 (by omega) (by omega) ?_; conv => whnf) | (refine iteT (by omega) ?_; conv => whnf) | (refine iteF (by omega) ?_; conv => whnf) | (refine iteET (by omega) ?_; conv => whnf) | (refine iteEF (by omega) ?_; conv => whnf) | (refine iteNT (by omega) ?_; conv => whnf) | (refine iteNF (by omega) ?_; conv => whnf))
  refine bytes_ld (hv.keep H.keep) rfl hx (by first | omega | (simp; done) | (simp; omega)) ?_
  conv => whnf
  repeat (first | (refine cnd_intro (by first | (simp; done) | (simp; omega) | omega | (simp only [Bool.and_eq_true, decide_eq_true_eq]; omega)) ?_; conv => whnf) | (refine Hp.ld H 0 rfl rfl ?_; conv => whnf) | (refine Hp.ld H 1 rfl rfl ?_; conv => whnf) | (refine Hp.ld H 2 rfl rfl ?_; conv => whnf) | (refine Hp.ld H 3 rfl rfl ?_; conv => whnf) | (refine Hp.ld H 4 rfl rfl ?_; conv => whnf) | (refine Hp.ld H 5 rfl rfl ?_; conv => whnf) | (refine Hp.st H 0 rfl rfl rfl rfl rfl ?_; intro h H; conv => whnf) | (refine Hp.st H 1 rfl rfl rfl rfl rfl ?_; intro h H; conv => whnf) | (refine Hp.st H 2 rfl rfl rfl rfl rfl ?_; intro h H; conv => whnf) | (refine Hp.st H 3 rfl rfl rfl rfl rfl ?_; intro h H; conv => whnf) | (refine Hp.st H 4 rfl rfl rfl rfl rfl ?_; intro h H; conv => whnf) | (refine Hp.st H 5 rfl rfl rfl rfl rfl ?_; intro h H; conv => whnf) | (intro b h N; replace H := Hp.new H N; clear N; conv => whnf) | (refine Drawn.mk (by kernel_rfl) ?_; conv => whnf) | (refine FillK.row rfl ?_; conv => whnf) | (refine FillK.lit rfl ?_; conv => whnf) | (refine WrapK.i64 (by omega) (by omega) ?_; conv => whnf) | (refine WrapK.u64 (by omega) (by omega) ?_; conv => whnf) | (refine WrapK.u32 (by omega) (by omega) ?_; conv => whnf) | (refine WrapK.u8 (by omega) (by omega) ?_; conv => whnf) | (refine iteT (by omega) ?_; conv => whnf) | (refine iteF (by omega) ?_; conv => whnf) | (refine iteET (by omega) ?_; conv => whnf) | (refine iteEF (by omega) ?_; conv => whnf) | (refine iteNT (by omega) ?_; conv => whnf) | (refine iteNF (by omega) ?_; conv => whnf))
  rw [bShr_u8 hx8]
  generalize x.toNat / 2 ^ k = q at *
  conv => whnf
  repeat (first | (refine cnd_intro (by first | (simp; done) | (simp; omega) | omega | (simp only [Bool.and_eq_true, decide_eq_true_eq]; omega)) ?_; conv => whnf) | (refine Hp.ld H 0 rfl rfl ?_; conv => whnf) | (refine Hp.ld H 1 rfl rfl ?_; conv => whnf) | (refine Hp.ld H 2 rfl rfl ?_; conv => whnf) | (refine Hp.ld H 3 rfl rfl ?_; conv => whnf) | (refine Hp.ld H 4 rfl rfl ?_; conv => whnf) | (refine Hp.ld H 5 rfl rfl ?_; conv => whnf) | (refine Hp.st H 0 rfl rfl rfl rfl rfl ?_; intro h H; conv => whnf) | (refine Hp.st H 1 rfl rfl rfl rfl rfl ?_; intro h H; conv => whnf) | (refine Hp.st H 2 rfl rfl rfl rfl rfl ?_; intro h H; conv => whnf) | (refine Hp.st H 3 rfl rfl rfl rfl rfl ?_; intro h H; conv => whnf) | (refine Hp.st H 4 rfl rfl rfl rfl rfl ?_; intro h H; conv => whnf) | (refine Hp.st H 5 rfl rfl rfl rfl rfl ?_; intro h H; conv => whnf) | (intro b h N; replace H := Hp.new H N; clear N; conv => whnf) | (refine Drawn.mk (by kernel_rfl) ?_; conv => whnf) | (refine FillK.row rfl ?_; conv => whnf) | (refine FillK.lit rfl ?_; conv => whnf) | (refine WrapK.i64 (by omega) (by omega) ?_; conv => whnf) | (refine WrapK.u64 (by omega) (by omega) ?_; conv => whnf) | (refine WrapK.u32 (by omega) (by omega) ?_; conv => whnf) | (refine WrapK.u8 (by omega) (by omega) ?_; conv => whnf) | (refine iteT (by omega) ?_; conv => whnf) | (refine iteF (by omega) ?_; conv => whnf) | (refine iteET (by omega) ?_; conv => whnf) | (refine iteEF (by omega) ?_; conv => whnf) | (refine iteNT (by omega) ?_; conv => whnf) | (refine iteNF (by omega) ?_; conv => whnf))
  rw [hbt] at *
  refine Hp.append EW_ok (z := iT) (ys := [bitV (x.toBitVec.getLsbD k)]) (m := 1) H 1 rfl (H.row 0 rfl rfl) rfl (fun e => by cases e) rfl rfl rfl rfl rfl rfl rfl (fun k h => by cases h) (by show _ * 8 ≤ _; omega) (by decide) (by decide) ?_
  intro s3 h5 H
  replace H := H.drop 0
  have e2 : (bitsOf (L.take i) ++ (bits8 x).take k).map bitV ++ [bitV (x.toBitVec.getLsbD k)] = (bitsOf (L.take i) ++ (bits8 x).take (k + 1)).map bitV := by
    rw [htk, ← List.append_assoc, List.map_append (l₂ := [_])]; rfl
  rw [e2] at H
  conv => whnf
  repeat (first | (refine cnd_intro (by first | (simp; done) | (simp; omega) | omega | (simp only [Bool.and_eq_true, decide_eq_true_eq]; omega)) ?_; conv => whnf) | (refine Hp.ld H 0 rfl rfl ?_; conv => whnf) | (refine Hp.ld H 1 rfl rfl ?_; conv => whnf) | (refine Hp.ld H 2 rfl rfl ?_; conv => whnf) | (refine Hp.ld H 3 rfl rfl ?_; conv => whnf) | (refine Hp.ld H 4 rfl rfl ?_; conv => whnf) | (refine Hp.ld H 5 rfl rfl ?_; conv => whnf) | (refine Hp.st H 0 rfl rfl rfl rfl rfl ?_; intro h H; conv => whnf) | (refine Hp.st H 1 rfl rfl rfl rfl rfl ?_; intro h H; conv => whnf) | (refine Hp.st H 2 rfl rfl rfl rfl rfl ?_; intro h H; conv => whnf) | (refine Hp.st H 3 rfl rfl rfl rfl rfl ?_; intro h H; conv => whnf) | (refine Hp.st H 4 rfl rfl rfl rfl rfl ?_; intro h H; conv => whnf) | (refine Hp.st H 5 rfl rfl rfl rfl rfl ?_; intro h H; conv => whnf) | (intro b h N; replace H := Hp.new H N; clear N; conv => whnf) | (refine Drawn.mk (by kernel_rfl) ?_; conv => whnf) | (refine FillK.row rfl ?_; conv => whnf) | (refine FillK.lit rfl ?_; conv => whnf) | (refine WrapK.i64 (by omega) (by omega) ?_; conv => whnf) | (refine WrapK.u64 (by omega) (by omega) ?_; conv => whnf) | (refine WrapK.u32 (by omega) (by omega) ?_; conv => whnf) | (refine WrapK.u8 (by omega) (by omega) ?_; conv => whnf) | (refine iteT (by omega) ?_; conv => whnf) | (refine iteF (by omega) ?_; conv => whnf) | (refine iteET (by omega) ?_; conv => whnf) | (refine iteEF (by omega) ?_; conv => whnf) | (refine iteNT (by omega) ?_; conv => whnf) | (refine iteNF (by omega) ?_; conv => whnf))
  exact ⟨(k + 1, s3), ⟨(by first | rfl | (show Value.int .i64 _ = _; congr 1; omega) | (show Value.int .i64 _ = _; rw [wrap64_id (by omega) (by omega)]; first | rfl | (congr 1; omega))), rfl, trivial⟩, (by repeat (first | exact trivial | refine ⟨rfl, ?_⟩)), ⟨by show k + 1 ≤ 8; omega, H⟩, by show 8 - (k + 1) < 8 - k; omega⟩

theorem poly_call (h0 : Heap) : CallK Try.prog 67 #[] h0 fun v h' => ∃ b, v = .slice (some ⟨b, 0, none⟩) 33 33 ∧ New h0 (.cells (polyB.map bitV).toArray 3) b h' := by
  refine CallK.of_vc EW_ok [0] (args := []) Try.func67 rfl (Nat.le_of_ble_eq_true rfl) ?_
  conv => whnf
  refine FillK.row rfl ?_
  conv => whnf
  intro b h' N
  conv => whnf
  exact ⟨b, rfl, N⟩

theorem bitV_at {l : List Bool} {i : Nat} {b : Bool} {r : List Value} (h : l[i]? = some b) : (l.map bitV ++ r)[i]? = some (bitV b) := by
  rw [List.getElem?_append, List.length_map]
  have hlt : i < l.length := by
    rcases Nat.lt_or_ge i l.length with h1 | h1
    · exact h1
    · rw [List.getElem?_eq_none h1] at h; cases h
  rw [if_pos hlt, List.getElem?_map, h]; rfl

theorem bitV_set {l : List Bool} {i : Nat} {b : Bool} {r : List Value} (h : i < l.length) : (l.map bitV ++ r).set i (bitV b) = (l.set i b).map bitV ++ r := by
  rw [List.set_append_left _ _ (by simpa using h), List.map_set]

/-- The first places turned. -/
def turned (B : List Bool) (i : Nat) : List Bool := (B.take i).map (fun b => !b) ++ B.drop i

theorem turned_set {B : List Bool} {i : Nat} {b : Bool} (h : B[i]? = some b) : (turned B i).set i (!b) = turned B (i + 1) := by
  have hlt : i < B.length := by
    rcases Nat.lt_or_ge i B.length with h1 | h1
    · exact h1
    · rw [List.getElem?_eq_none h1] at h; cases h
  unfold turned
  rw [List.set_append_right _ _ (by simp; omega), List.drop_eq_getElem_cons hlt]
  rw [List.getElem?_eq_getElem hlt] at h
  injection h with h
  have e : i - ((B.take i).map fun b => !b).length = 0 := by simp; omega
  rw [e, h, List.set_cons_zero, List.take_add_one, List.getElem?_eq_getElem hlt, h]
  simp

theorem turned_at {B : List Bool} {i : Nat} {b : Bool} (h : B[i]? = some b) : (turned B i)[i]? = some b := by
  have hlt : i < B.length := by
    rcases Nat.lt_or_ge i B.length with h1 | h1
    · exact h1
    · rw [List.getElem?_eq_none h1] at h; cases h
  unfold turned
  rw [List.getElem?_append_right (by simp; omega)]
  have e : i - ((B.take i).map fun b => !b).length = 0 := by simp; omega
  rw [e, List.getElem?_drop, Nat.add_zero, h]

theorem turned_length (B : List Bool) (i : Nat) (h : i ≤ B.length) : (turned B i).length = B.length := by simp [turned]; omega

theorem padB_take (L : List UInt8) (j : Nat) (b : Bool) : True := trivial

theorem bitI_xor (a b : Bool) : (bitI a + bitI b).tmod 2 = bitI (a ^^ b) := by cases a <;> cases b <;> decide
theorem bitI_not (a : Bool) : 1 - bitI a = bitI (!a) := by cases a <;> decide

theorem refSum_call (h0 : Heap) (v : Value) (L : List UInt8) (hv : BytesV h0 v L) (hl : L.length ≤ 1000000) :
    CallK Try.prog 31 #[v] h0 fun v h' => Keep (fun _ => False) h0 h' ∧ v = .int .u32 ((crcSum L).toNat : Int) := by
  obtain ⟨A, c, rfl, hc, hr, hA0⟩ := hv.out
  refine CallK.of_vc EW_ok [0, 2, 3, 4, 5, 6, 7, 8, 9, 10, 11, 15, 22, 38, 45, 49, 75] Try.func31 rfl (Nat.le_of_ble_eq_true rfl) ?_
  have H := Hp.start h0
  have hpl := padB_length L
  have hbl := bitsOf_length L
  conv => whnf
  repeat (first | (refine cnd_intro (by first | (simp; done) | (simp; omega) | omega | (simp only [Bool.and_eq_true, decide_eq_true_eq]; omega)) ?_; conv => whnf) | (refine Hp.ld H 0 rfl rfl ?_; conv => whnf) | (refine Hp.ld H 1 rfl rfl ?_; conv => whnf) | (refine Hp.ld H 2 rfl rfl ?_; conv => whnf) | (refine Hp.ld H 3 rfl rfl ?_; conv => whnf) | (refine Hp.ld H 4 rfl rfl ?_; conv => whnf) | (refine Hp.ld H 5 rfl rfl ?_; conv => whnf) | (refine Hp.st H 0 rfl rfl rfl rfl rfl ?_; intro h H; conv => whnf) | (refine Hp.st H 1 rfl rfl rfl rfl rfl ?_; intro h H; conv => whnf) | (refine Hp.st H 2 rfl rfl rfl rfl rfl ?_; intro h H; conv => whnf) | (refine Hp.st H 3 rfl rfl rfl rfl rfl ?_; intro h H; conv => whnf) | (refine Hp.st H 4 rfl rfl rfl rfl rfl ?_; intro h H; conv => whnf) | (refine Hp.st H 5 rfl rfl rfl rfl rfl ?_; intro h H; conv => whnf) | (intro b h N; replace H := Hp.new H N; clear N; conv => whnf) | (refine Drawn.mk (by kernel_rfl) ?_; conv => whnf) | (refine FillK.row rfl ?_; conv => whnf) | (refine FillK.lit rfl ?_; conv => whnf) | (refine WrapK.i64 (by omega) (by omega) ?_; conv => whnf) | (refine WrapK.u64 (by omega) (by omega) ?_; conv => whnf) | (refine WrapK.u32 (by omega) (by omega) ?_; conv => whnf) | (refine WrapK.u8 (by omega) (by omega) ?_; conv => whnf) | (refine iteT (by omega) ?_; conv => whnf) | (refine iteF (by omega) ?_; conv => whnf) | (refine iteET (by omega) ?_; conv => whnf) | (refine iteEF (by omega) ?_; conv => whnf) | (refine iteNT (by omega) ?_; conv => whnf) | (refine iteNF (by omega) ?_; conv => whnf))
  refine CallK.mono (refBitsOf_call _ _ L (hv.keep H.keep) hl) ?_
  rintro s1 h1 ⟨k1, o1⟩
  replace H := H.made o1 k1
  conv => whnf
  repeat (first | (refine cnd_intro (by first | (simp; done) | (simp; omega) | omega | (simp only [Bool.and_eq_true, decide_eq_true_eq]; omega)) ?_; conv => whnf) | (refine Hp.ld H 0 rfl rfl ?_; conv => whnf) | (refine Hp.ld H 1 rfl rfl ?_; conv => whnf) | (refine Hp.ld H 2 rfl rfl ?_; conv => whnf) | (refine Hp.ld H 3 rfl rfl ?_; conv => whnf) | (refine Hp.ld H 4 rfl rfl ?_; conv => whnf) | (refine Hp.ld H 5 rfl rfl ?_; conv => whnf) | (refine Hp.st H 0 rfl rfl rfl rfl rfl ?_; intro h H; conv => whnf) | (refine Hp.st H 1 rfl rfl rfl rfl rfl ?_; intro h H; conv => whnf) | (refine Hp.st H 2 rfl rfl rfl rfl rfl ?_; intro h H; conv => whnf) | (refine Hp.st H 3 rfl rfl rfl rfl rfl ?_; intro h H; conv => whnf) | (refine Hp.st H 4 rfl rfl rfl rfl rfl ?_; intro h H; conv => whnf) | (refine Hp.st H 5 rfl rfl rfl rfl rfl ?_; intro h H; conv => whnf) | (intro b h N; replace H := Hp.new H N; clear N; conv => whnf) | (refine Drawn.mk (by kernel_rfl) ?_; conv => whnf) | (refine FillK.row rfl ?_; conv => whnf) | (refine FillK.lit rfl ?_; conv => whnf) | (refine WrapK.i64 (by omega) (by omega) ?_; conv => whnf) | (refine WrapK.u64 (by omega) (by omega) ?_; conv => whnf) | (refine WrapK.u32 (by omega) (by omega) ?_; conv => whnf) | (refine WrapK.u8 (by omega) (by omega) ?_; conv => whnf) | (refine iteT (by omega) ?_; conv => whnf) | (refine iteF (by omega) ?_; conv => whnf) | (refine iteET (by omega) ?_; conv => whnf) | (refine iteEF (by omega) ?_; conv => whnf) | (refine iteNT (by omega) ?_; conv => whnf) | (refine iteNF (by omega) ?_; conv => whnf))
  refine ⟨Nat × Value, [0, 2, 5, 6, 7, 8, 9, 10, 11, 22, 38, 45, 49, 75], fun j => [(4, .int .i64 (j.1 : Nat)), (3, j.2)], fun j h' => j.1 ≤ 32 ∧ Hp h0 h' [Res.own j.2 3 1 (8 * L.length + j.1) ((bitsOf L ++ List.replicate j.1 false).map bitV)], fun j => 32 - j.1, ?_⟩
  conv => whnf
  refine ⟨⟨(0, s1), ⟨rfl, rfl, trivial⟩, by show 0 ≤ 32; omega, by simpa using H⟩, ?_⟩
  clear H
  rintro ⟨j, s2⟩ h2 ⟨jA, H⟩
  dsimp only at jA H ⊢
  by_cases cj : j = 32
  case neg =>
    conv => whnf
    repeat (first | (refine cnd_intro (by first | (simp; done) | (simp; omega) | omega | (simp only [Bool.and_eq_true, decide_eq_true_eq]; omega)) ?_; conv => whnf) | (refine Hp.ld H 0 rfl rfl ?_; conv => whnf) | (refine Hp.ld H 1 rfl rfl ?_; conv => whnf) | (refine Hp.ld H 2 rfl rfl ?_; conv => whnf) | (refine Hp.ld H 3 rfl rfl ?_; conv => whnf) | (refine Hp.ld H 4 rfl rfl ?_; conv => whnf) | (refine Hp.ld H 5 rfl rfl ?_; conv => whnf) | (refine Hp.st H 0 rfl rfl rfl rfl rfl ?_; intro h H; conv => whnf) | (refine Hp.st H 1 rfl rfl rfl rfl rfl ?_; intro h H; conv => whnf) | (refine Hp.st H 2 rfl rfl rfl rfl rfl ?_; intro h H; conv => whnf) | (refine Hp.st H 3 rfl rfl rfl rfl rfl ?_; intro h H; conv => whnf) | (refine Hp.st H 4 rfl rfl rfl rfl rfl ?_; intro h H; conv => whnf) | (refine Hp.st H 5 rfl rfl rfl rfl rfl ?_; intro h H; conv => whnf) | (intro b h N; replace H := Hp.new H N; clear N; conv => whnf) | (refine Drawn.mk (by kernel_rfl) ?_; conv => whnf) | (refine FillK.row rfl ?_; conv => whnf) | (refine FillK.lit rfl ?_; conv => whnf) | (refine WrapK.i64 (by omega) (by omega) ?_; conv => whnf) | (refine WrapK.u64 (by omega) (by omega) ?_; conv => whnf) | (refine WrapK.u32 (by omega) (by omega) ?_; conv => whnf) | (refine WrapK.u8 (by omega) (by omega) ?_; conv => whnf) | (refine iteT (by omega) ?_; conv => whnf) | (refine iteF (by omega) ?_; conv => whnf) | (refine iteET (by omega) ?_; conv => whnf) | (refine iteEF (by omega) ?_; conv => whnf) | (refine iteNT (by omega) ?_; conv => whnf) | (refine iteNF (by omega) ?_; conv => whnf))
    refine Hp.append EW_ok (z := iT) (ys := [bitV false]) (m := 1) H 1 rfl (H.row 0 rfl rfl) rfl (fun e => by cases e) rfl rfl rfl rfl rfl rfl rfl (fun k h => by cases h) (by show _ * 8 ≤ _; omega) (by decide) (by decide) ?_
    intro s3 h3 H
    replace H := H.drop 0
    have e2 : (bitsOf L ++ List.replicate j false).map bitV ++ [bitV false] = (bitsOf L ++ List.replicate (j + 1) false).map bitV := by
      rw [List.replicate_succ', ← List.append_assoc, List.map_append (l₂ := [false])]; rfl
    rw [e2] at H
    conv => whnf
    repeat (first | (refine cnd_intro (by first | (simp; done) | (simp; omega) | omega | (simp only [Bool.and_eq_true, decide_eq_true_eq]; omega)) ?_; conv => whnf) | (refine Hp.ld H 0 rfl rfl ?_; conv => whnf) | (refine Hp.ld H 1 rfl rfl ?_; conv => whnf) | (refine Hp.ld H 2 rfl rfl ?_; conv => whnf) | (refine Hp.ld H 3 rfl rfl ?_; conv => whnf) | (refine Hp.ld H 4 rfl rfl ?_; conv => whnf) | (refine Hp.ld H 5 rfl rfl ?_; conv => whnf) | (refine Hp.st H 0 rfl rfl rfl rfl rfl ?_; intro h H; conv => whnf) | (refine Hp.st H 1 rfl rfl rfl rfl rfl ?_; intro h H; conv => whnf) | (refine Hp.st H 2 rfl rfl rfl rfl rfl ?_; intro h H; conv => whnf) | (refine Hp.st H 3 rfl rfl rfl rfl rfl ?_; intro h H; conv => whnf) | (refine Hp.st H 4 rfl rfl rfl rfl rfl ?_; intro h H; conv => whnf) | (refine Hp.st H 5 rfl rfl rfl rfl rfl ?_; intro h H; conv => whnf) | (intro b h N; replace H := Hp.new H N; clear N; conv => whnf) | (refine Drawn.mk (by kernel_rfl) ?_; conv => whnf) | (refine FillK.row rfl ?_; conv => whnf) | (refine FillK.lit rfl ?_; conv => whnf) | (refine WrapK.i64 (by omega) (by omega) ?_; conv => whnf) | (refine WrapK.u64 (by omega) (by omega) ?_; conv => whnf) | (refine WrapK.u32 (by omega) (by omega) ?_; conv => whnf) | (refine WrapK.u8 (by omega) (by omega) ?_; conv => whnf) | (refine iteT (by omega) ?_; conv => whnf) | (refine iteF (by omega) ?_; conv => whnf) | (refine iteET (by omega) ?_; conv => whnf) | (refine iteEF (by omega) ?_; conv => whnf) | (refine iteNT (by omega) ?_; conv => whnf) | (refine iteNF (by omega) ?_; conv => whnf))
    exact ⟨(j + 1, s3), ⟨(by first | rfl | (show Value.int .i64 _ = _; congr 1; omega) | (show Value.int .i64 _ = _; rw [wrap64_id (by omega) (by omega)]; first | rfl | (congr 1; omega))), rfl, trivial⟩, (by repeat (first | exact trivial | refine ⟨rfl, ?_⟩)), ⟨by show j + 1 ≤ 32; omega, H⟩, by show 32 - (j + 1) < 32 - j; omega⟩
  subst cj
  replace H : Hp h0 h2 [Res.own s2 3 1 (8 * L.length + 32) ((padB L).map bitV)] := H
  obtain ⟨b, cap, r, rfl, hcap, hlen, H⟩ := H.opened 0 rfl (by omega) (by decide)
  conv => whnf
  repeat (first | (refine cnd_intro (by first | (simp; done) | (simp; omega) | omega | (simp only [Bool.and_eq_true, decide_eq_true_eq]; omega)) ?_; conv => whnf) | (refine Hp.ld H 0 rfl rfl ?_; conv => whnf) | (refine Hp.ld H 1 rfl rfl ?_; conv => whnf) | (refine Hp.ld H 2 rfl rfl ?_; conv => whnf) | (refine Hp.ld H 3 rfl rfl ?_; conv => whnf) | (refine Hp.ld H 4 rfl rfl ?_; conv => whnf) | (refine Hp.ld H 5 rfl rfl ?_; conv => whnf) | (refine Hp.st H 0 rfl rfl rfl rfl rfl ?_; intro h H; conv => whnf) | (refine Hp.st H 1 rfl rfl rfl rfl rfl ?_; intro h H; conv => whnf) | (refine Hp.st H 2 rfl rfl rfl rfl rfl ?_; intro h H; conv => whnf) | (refine Hp.st H 3 rfl rfl rfl rfl rfl ?_; intro h H; conv => whnf) | (refine Hp.st H 4 rfl rfl rfl rfl rfl ?_; intro h H; conv => whnf) | (refine Hp.st H 5 rfl rfl rfl rfl rfl ?_; intro h H; conv => whnf) | (intro b h N; replace H := Hp.new H N; clear N; conv => whnf) | (refine Drawn.mk (by kernel_rfl) ?_; conv => whnf) | (refine FillK.row rfl ?_; conv => whnf) | (refine FillK.lit rfl ?_; conv => whnf) | (refine WrapK.i64 (by omega) (by omega) ?_; conv => whnf) | (refine WrapK.u64 (by omega) (by omega) ?_; conv => whnf) | (refine WrapK.u32 (by omega) (by omega) ?_; conv => whnf) | (refine WrapK.u8 (by omega) (by omega) ?_; conv => whnf) | (refine iteT (by omega) ?_; conv => whnf) | (refine iteF (by omega) ?_; conv => whnf) | (refine iteET (by omega) ?_; conv => whnf) | (refine iteEF (by omega) ?_; conv => whnf) | (refine iteNT (by omega) ?_; conv => whnf) | (refine iteNF (by omega) ?_; conv => whnf))
  refine ⟨Nat, [0, 2, 3, 4, 6, 7, 8, 9, 10, 11, 15, 38, 45, 49, 75], fun i => [(5, .int .i64 (i : Nat))], fun i h' => i ≤ 32 ∧ Hp h0 h' [Res.ob b (.cells ((turned (padB L) i).map bitV ++ r).toArray 3 (0, 0))], fun i => 32 - i, ?_⟩
  conv => whnf
  refine ⟨⟨0, ⟨rfl, trivial⟩, by omega, H⟩, ?_⟩
  clear H
  rintro i h3 ⟨iA, H⟩
  by_cases ci : i = 32
  case neg =>
    obtain ⟨x, hx⟩ := list_at (L := padB L) (i := i) (by omega)
    have htl := turned_length (padB L) i (by omega)
    conv => whnf
    repeat (first | (refine cnd_intro (by first | (simp; done) | (simp; omega) | omega | (simp only [Bool.and_eq_true, decide_eq_true_eq]; omega)) ?_; conv => whnf) | (refine Hp.ld H 0 rfl rfl ?_; conv => whnf) | (refine Hp.ld H 1 rfl rfl ?_; conv => whnf) | (refine Hp.ld H 2 rfl rfl ?_; conv => whnf) | (refine Hp.ld H 3 rfl rfl ?_; conv => whnf) | (refine Hp.ld H 4 rfl rfl ?_; conv => whnf) | (refine Hp.ld H 5 rfl rfl ?_; conv => whnf) | (refine Hp.st H 0 rfl rfl rfl rfl rfl ?_; intro h H; conv => whnf) | (refine Hp.st H 1 rfl rfl rfl rfl rfl ?_; intro h H; conv => whnf) | (refine Hp.st H 2 rfl rfl rfl rfl rfl ?_; intro h H; conv => whnf) | (refine Hp.st H 3 rfl rfl rfl rfl rfl ?_; intro h H; conv => whnf) | (refine Hp.st H 4 rfl rfl rfl rfl rfl ?_; intro h H; conv => whnf) | (refine Hp.st H 5 rfl rfl rfl rfl rfl ?_; intro h H; conv => whnf) | (intro b h N; replace H := Hp.new H N; clear N; conv => whnf) | (refine Drawn.mk (by kernel_rfl) ?_; conv => whnf) | (refine FillK.row rfl ?_; conv => whnf) | (refine FillK.lit rfl ?_; conv => whnf) | (refine WrapK.i64 (by omega) (by omega) ?_; conv => whnf) | (refine WrapK.u64 (by omega) (by omega) ?_; conv => whnf) | (refine WrapK.u32 (by omega) (by omega) ?_; conv => whnf) | (refine WrapK.u8 (by omega) (by omega) ?_; conv => whnf) | (refine iteT (by omega) ?_; conv => whnf) | (refine iteF (by omega) ?_; conv => whnf) | (refine iteET (by omega) ?_; conv => whnf) | (refine iteEF (by omega) ?_; conv => whnf) | (refine iteNT (by omega) ?_; conv => whnf) | (refine iteNF (by omega) ?_; conv => whnf))
    refine Hp.ldAt H 0 rfl (y := iT) rfl rfl (o := i) (by first | omega | (simp; done) | (simp; omega)) (bitV_at (turned_at hx)) ?_
    have hbb := bitI_lt x
    conv => whnf
    repeat (first | (refine cnd_intro (by first | (simp; done) | (simp; omega) | omega | (simp only [Bool.and_eq_true, decide_eq_true_eq]; omega)) ?_; conv => whnf) | (refine Hp.ld H 0 rfl rfl ?_; conv => whnf) | (refine Hp.ld H 1 rfl rfl ?_; conv => whnf) | (refine Hp.ld H 2 rfl rfl ?_; conv => whnf) | (refine Hp.ld H 3 rfl rfl ?_; conv => whnf) | (refine Hp.ld H 4 rfl rfl ?_; conv => whnf) | (refine Hp.ld H 5 rfl rfl ?_; conv => whnf) | (refine Hp.st H 0 rfl rfl rfl rfl rfl ?_; intro h H; conv => whnf) | (refine Hp.st H 1 rfl rfl rfl rfl rfl ?_; intro h H; conv => whnf) | (refine Hp.st H 2 rfl rfl rfl rfl rfl ?_; intro h H; conv => whnf) | (refine Hp.st H 3 rfl rfl rfl rfl rfl ?_; intro h H; conv => whnf) | (refine Hp.st H 4 rfl rfl rfl rfl rfl ?_; intro h H; conv => whnf) | (refine Hp.st H 5 rfl rfl rfl rfl rfl ?_; intro h H; conv => whnf) | (intro b h N; replace H := Hp.new H N; clear N; conv => whnf) | (refine Drawn.mk (by kernel_rfl) ?_; conv => whnf) | (refine FillK.row rfl ?_; conv => whnf) | (refine FillK.lit rfl ?_; conv => whnf) | (refine WrapK.i64 (by omega) (by omega) ?_; conv => whnf) | (refine WrapK.u64 (by omega) (by omega) ?_; conv => whnf) | (refine WrapK.u32 (by omega) (by omega) ?_; conv => whnf) | (refine WrapK.u8 (by omega) (by omega) ?_; conv => whnf) | (refine iteT (by omega) ?_; conv => whnf) | (refine iteF (by omega) ?_; conv => whnf) | (refine iteET (by omega) ?_; conv => whnf) | (refine iteEF (by omega) ?_; conv => whnf) | (refine iteNT (by omega) ?_; conv => whnf) | (refine iteNF (by omega) ?_; conv => whnf))
    rw [bitI_not]
    refine Hp.stAt H 0 rfl (y := iT) rfl rfl rfl rfl (o := i) (by first | omega | (simp; done) | (simp; omega)) (by simp; omega) ?_
    intro h4 H
    rw [show (Value.int .i64 (bitI !x)) = bitV (!x) from rfl, bitV_set (by omega), turned_set hx] at H
    conv => whnf
    repeat (first | (refine cnd_intro (by first | (simp; done) | (simp; omega) | omega | (simp only [Bool.and_eq_true, decide_eq_true_eq]; omega)) ?_; conv => whnf) | (refine Hp.ld H 0 rfl rfl ?_; conv => whnf) | (refine Hp.ld H 1 rfl rfl ?_; conv => whnf) | (refine Hp.ld H 2 rfl rfl ?_; conv => whnf) | (refine Hp.ld H 3 rfl rfl ?_; conv => whnf) | (refine Hp.ld H 4 rfl rfl ?_; conv => whnf) | (refine Hp.ld H 5 rfl rfl ?_; conv => whnf) | (refine Hp.st H 0 rfl rfl rfl rfl rfl ?_; intro h H; conv => whnf) | (refine Hp.st H 1 rfl rfl rfl rfl rfl ?_; intro h H; conv => whnf) | (refine Hp.st H 2 rfl rfl rfl rfl rfl ?_; intro h H; conv => whnf) | (refine Hp.st H 3 rfl rfl rfl rfl rfl ?_; intro h H; conv => whnf) | (refine Hp.st H 4 rfl rfl rfl rfl rfl ?_; intro h H; conv => whnf) | (refine Hp.st H 5 rfl rfl rfl rfl rfl ?_; intro h H; conv => whnf) | (intro b h N; replace H := Hp.new H N; clear N; conv => whnf) | (refine Drawn.mk (by kernel_rfl) ?_; conv => whnf) | (refine FillK.row rfl ?_; conv => whnf) | (refine FillK.lit rfl ?_; conv => whnf) | (refine WrapK.i64 (by omega) (by omega) ?_; conv => whnf) | (refine WrapK.u64 (by omega) (by omega) ?_; conv => whnf) | (refine WrapK.u32 (by omega) (by omega) ?_; conv => whnf) | (refine WrapK.u8 (by omega) (by omega) ?_; conv => whnf) | (refine iteT (by omega) ?_; conv => whnf) | (refine iteF (by omega) ?_; conv => whnf) | (refine iteET (by omega) ?_; conv => whnf) | (refine iteEF (by omega) ?_; conv => whnf) | (refine iteNT (by omega) ?_; conv => whnf) | (refine iteNF (by omega) ?_; conv => whnf))
    exact ⟨i + 1, ⟨(by first | rfl | (show Value.int .i64 _ = _; congr 1; omega) | (show Value.int .i64 _ = _; rw [wrap64_id (by omega) (by omega)]; first | rfl | (congr 1; omega))), trivial⟩, (by repeat (first | exact trivial | refine ⟨rfl, ?_⟩)), ⟨by omega, H⟩, by show 32 - (i + 1) < 32 - i; omega⟩
  subst ci
  have e3 : turned (padB L) 32 = divAt L 0 := (divAt_zero L).symm
  rw [e3] at H
  conv => whnf
  repeat (first | (refine cnd_intro (by first | (simp; done) | (simp; omega) | omega | (simp only [Bool.and_eq_true, decide_eq_true_eq]; omega)) ?_; conv => whnf) | (refine Hp.ld H 0 rfl rfl ?_; conv => whnf) | (refine Hp.ld H 1 rfl rfl ?_; conv => whnf) | (refine Hp.ld H 2 rfl rfl ?_; conv => whnf) | (refine Hp.ld H 3 rfl rfl ?_; conv => whnf) | (refine Hp.ld H 4 rfl rfl ?_; conv => whnf) | (refine Hp.ld H 5 rfl rfl ?_; conv => whnf) | (refine Hp.st H 0 rfl rfl rfl rfl rfl ?_; intro h H; conv => whnf) | (refine Hp.st H 1 rfl rfl rfl rfl rfl ?_; intro h H; conv => whnf) | (refine Hp.st H 2 rfl rfl rfl rfl rfl ?_; intro h H; conv => whnf) | (refine Hp.st H 3 rfl rfl rfl rfl rfl ?_; intro h H; conv => whnf) | (refine Hp.st H 4 rfl rfl rfl rfl rfl ?_; intro h H; conv => whnf) | (refine Hp.st H 5 rfl rfl rfl rfl rfl ?_; intro h H; conv => whnf) | (intro b h N; replace H := Hp.new H N; clear N; conv => whnf) | (refine Drawn.mk (by kernel_rfl) ?_; conv => whnf) | (refine FillK.row rfl ?_; conv => whnf) | (refine FillK.lit rfl ?_; conv => whnf) | (refine WrapK.i64 (by omega) (by omega) ?_; conv => whnf) | (refine WrapK.u64 (by omega) (by omega) ?_; conv => whnf) | (refine WrapK.u32 (by omega) (by omega) ?_; conv => whnf) | (refine WrapK.u8 (by omega) (by omega) ?_; conv => whnf) | (refine iteT (by omega) ?_; conv => whnf) | (refine iteF (by omega) ?_; conv => whnf) | (refine iteET (by omega) ?_; conv => whnf) | (refine iteEF (by omega) ?_; conv => whnf) | (refine iteNT (by omega) ?_; conv => whnf) | (refine iteNF (by omega) ?_; conv => whnf))
  refine CallK.mono (poly_call _) ?_
  rintro _ h4 ⟨pb, rfl, N⟩
  replace H := H.new N
  clear N
  conv => whnf
  repeat (first | (refine cnd_intro (by first | (simp; done) | (simp; omega) | omega | (simp only [Bool.and_eq_true, decide_eq_true_eq]; omega)) ?_; conv => whnf) | (refine Hp.ld H 0 rfl rfl ?_; conv => whnf) | (refine Hp.ld H 1 rfl rfl ?_; conv => whnf) | (refine Hp.ld H 2 rfl rfl ?_; conv => whnf) | (refine Hp.ld H 3 rfl rfl ?_; conv => whnf) | (refine Hp.ld H 4 rfl rfl ?_; conv => whnf) | (refine Hp.ld H 5 rfl rfl ?_; conv => whnf) | (refine Hp.st H 0 rfl rfl rfl rfl rfl ?_; intro h H; conv => whnf) | (refine Hp.st H 1 rfl rfl rfl rfl rfl ?_; intro h H; conv => whnf) | (refine Hp.st H 2 rfl rfl rfl rfl rfl ?_; intro h H; conv => whnf) | (refine Hp.st H 3 rfl rfl rfl rfl rfl ?_; intro h H; conv => whnf) | (refine Hp.st H 4 rfl rfl rfl rfl rfl ?_; intro h H; conv => whnf) | (refine Hp.st H 5 rfl rfl rfl rfl rfl ?_; intro h H; conv => whnf) | (intro b h N; replace H := Hp.new H N; clear N; conv => whnf) | (refine Drawn.mk (by kernel_rfl) ?_; conv => whnf) | (refine FillK.row rfl ?_; conv => whnf) | (refine FillK.lit rfl ?_; conv => whnf) | (refine WrapK.i64 (by omega) (by omega) ?_; conv => whnf) | (refine WrapK.u64 (by omega) (by omega) ?_; conv => whnf) | (refine WrapK.u32 (by omega) (by omega) ?_; conv => whnf) | (refine WrapK.u8 (by omega) (by omega) ?_; conv => whnf) | (refine iteT (by omega) ?_; conv => whnf) | (refine iteF (by omega) ?_; conv => whnf) | (refine iteET (by omega) ?_; conv => whnf) | (refine iteEF (by omega) ?_; conv => whnf) | (refine iteNT (by omega) ?_; conv => whnf) | (refine iteNF (by omega) ?_; conv => whnf))
  refine ⟨Nat, [0, 2, 3, 4, 5, 6, 9, 10, 11, 15, 22, 75], fun i => [(7, .int .i64 (i : Nat))], fun i h' => i ≤ 8 * L.length ∧ Hp h0 h' [Res.ob pb (.cells (polyB.map bitV).toArray 3 (0, 0)), Res.ob b (.cells ((divAt L i).map bitV ++ r).toArray 3 (0, 0))], fun i => 8 * L.length - i, ?_⟩
  conv => whnf
  refine ⟨⟨0, ⟨rfl, trivial⟩, by omega, H⟩, ?_⟩
  clear H
  rintro i h5 ⟨iA, H⟩
  by_cases ci : i = 8 * L.length
  case neg =>
    have hil : i < 8 * L.length := by omega
    obtain ⟨t, ht⟩ := list_at (L := padB L) (i := i + 32) (by omega)
    have hh := divAt_head L i
    have hdl := divAt_length L (i := i) (by omega)
    conv => whnf
    repeat (first | (refine cnd_intro (by first | (simp; done) | (simp; omega) | omega | (simp only [Bool.and_eq_true, decide_eq_true_eq]; omega)) ?_; conv => whnf) | (refine Hp.ld H 0 rfl rfl ?_; conv => whnf) | (refine Hp.ld H 1 rfl rfl ?_; conv => whnf) | (refine Hp.ld H 2 rfl rfl ?_; conv => whnf) | (refine Hp.ld H 3 rfl rfl ?_; conv => whnf) | (refine Hp.ld H 4 rfl rfl ?_; conv => whnf) | (refine Hp.ld H 5 rfl rfl ?_; conv => whnf) | (refine Hp.st H 0 rfl rfl rfl rfl rfl ?_; intro h H; conv => whnf) | (refine Hp.st H 1 rfl rfl rfl rfl rfl ?_; intro h H; conv => whnf) | (refine Hp.st H 2 rfl rfl rfl rfl rfl ?_; intro h H; conv => whnf) | (refine Hp.st H 3 rfl rfl rfl rfl rfl ?_; intro h H; conv => whnf) | (refine Hp.st H 4 rfl rfl rfl rfl rfl ?_; intro h H; conv => whnf) | (refine Hp.st H 5 rfl rfl rfl rfl rfl ?_; intro h H; conv => whnf) | (intro b h N; replace H := Hp.new H N; clear N; conv => whnf) | (refine Drawn.mk (by kernel_rfl) ?_; conv => whnf) | (refine FillK.row rfl ?_; conv => whnf) | (refine FillK.lit rfl ?_; conv => whnf) | (refine WrapK.i64 (by omega) (by omega) ?_; conv => whnf) | (refine WrapK.u64 (by omega) (by omega) ?_; conv => whnf) | (refine WrapK.u32 (by omega) (by omega) ?_; conv => whnf) | (refine WrapK.u8 (by omega) (by omega) ?_; conv => whnf) | (refine iteT (by omega) ?_; conv => whnf) | (refine iteF (by omega) ?_; conv => whnf) | (refine iteET (by omega) ?_; conv => whnf) | (refine iteEF (by omega) ?_; conv => whnf) | (refine iteNT (by omega) ?_; conv => whnf) | (refine iteNF (by omega) ?_; conv => whnf))
    refine Hp.ldAt H 1 rfl (y := iT) rfl rfl (o := i) (by first | omega | (simp; done) | (simp; omega)) (bitV_at hh) ?_
    by_cases hb0 : (regAt L i).getLsbD 0 = true
    case neg =>
      have hb0' : (regAt L i).getLsbD 0 = false := by simpa using hb0
      have hn := divMid_next L hil ht (k := 0) (.inr ⟨rfl, hb0'⟩)
      rw [divMid_zero L ht] at hn
      rw [hb0']
      rw [hn] at H
      conv => whnf
      repeat (first | (refine cnd_intro (by first | (simp; done) | (simp; omega) | omega | (simp only [Bool.and_eq_true, decide_eq_true_eq]; omega)) ?_; conv => whnf) | (refine Hp.ld H 0 rfl rfl ?_; conv => whnf) | (refine Hp.ld H 1 rfl rfl ?_; conv => whnf) | (refine Hp.ld H 2 rfl rfl ?_; conv => whnf) | (refine Hp.ld H 3 rfl rfl ?_; conv => whnf) | (refine Hp.ld H 4 rfl rfl ?_; conv => whnf) | (refine Hp.ld H 5 rfl rfl ?_; conv => whnf) | (refine Hp.st H 0 rfl rfl rfl rfl rfl ?_; intro h H; conv => whnf) | (refine Hp.st H 1 rfl rfl rfl rfl rfl ?_; intro h H; conv => whnf) | (refine Hp.st H 2 rfl rfl rfl rfl rfl ?_; intro h H; conv => whnf) | (refine Hp.st H 3 rfl rfl rfl rfl rfl ?_; intro h H; conv => whnf) | (refine Hp.st H 4 rfl rfl rfl rfl rfl ?_; intro h H; conv => whnf) | (refine Hp.st H 5 rfl rfl rfl rfl rfl ?_; intro h H; conv => whnf) | (intro b h N; replace H := Hp.new H N; clear N; conv => whnf) | (refine Drawn.mk (by kernel_rfl) ?_; conv => whnf) | (refine FillK.row rfl ?_; conv => whnf) | (refine FillK.lit rfl ?_; conv => whnf) | (refine WrapK.i64 (by omega) (by omega) ?_; conv => whnf) | (refine WrapK.u64 (by omega) (by omega) ?_; conv => whnf) | (refine WrapK.u32 (by omega) (by omega) ?_; conv => whnf) | (refine WrapK.u8 (by omega) (by omega) ?_; conv => whnf) | (refine iteT (by omega) ?_; conv => whnf) | (refine iteF (by omega) ?_; conv => whnf) | (refine iteET (by omega) ?_; conv => whnf) | (refine iteEF (by omega) ?_; conv => whnf) | (refine iteNT (by omega) ?_; conv => whnf) | (refine iteNF (by omega) ?_; conv => whnf))
      exact ⟨i + 1, ⟨(by first | rfl | (show Value.int .i64 _ = _; congr 1; omega) | (show Value.int .i64 _ = _; rw [wrap64_id (by omega) (by omega)]; first | rfl | (congr 1; omega))), trivial⟩, (by repeat (first | exact trivial | refine ⟨rfl, ?_⟩)), ⟨by omega, H⟩, by show 8 * L.length - (i + 1) < 8 * L.length - i; omega⟩
    have hn := divMid_next L hil ht (k := 33) (.inl ⟨rfl, hb0⟩)
    rw [← divMid_zero L ht] at H
    rw [hb0]
    conv => whnf
    repeat (first | (refine cnd_intro (by first | (simp; done) | (simp; omega) | omega | (simp only [Bool.and_eq_true, decide_eq_true_eq]; omega)) ?_; conv => whnf) | (refine Hp.ld H 0 rfl rfl ?_; conv => whnf) | (refine Hp.ld H 1 rfl rfl ?_; conv => whnf) | (refine Hp.ld H 2 rfl rfl ?_; conv => whnf) | (refine Hp.ld H 3 rfl rfl ?_; conv => whnf) | (refine Hp.ld H 4 rfl rfl ?_; conv => whnf) | (refine Hp.ld H 5 rfl rfl ?_; conv => whnf) | (refine Hp.st H 0 rfl rfl rfl rfl rfl ?_; intro h H; conv => whnf) | (refine Hp.st H 1 rfl rfl rfl rfl rfl ?_; intro h H; conv => whnf) | (refine Hp.st H 2 rfl rfl rfl rfl rfl ?_; intro h H; conv => whnf) | (refine Hp.st H 3 rfl rfl rfl rfl rfl ?_; intro h H; conv => whnf) | (refine Hp.st H 4 rfl rfl rfl rfl rfl ?_; intro h H; conv => whnf) | (refine Hp.st H 5 rfl rfl rfl rfl rfl ?_; intro h H; conv => whnf) | (intro b h N; replace H := Hp.new H N; clear N; conv => whnf) | (refine Drawn.mk (by kernel_rfl) ?_; conv => whnf) | (refine FillK.row rfl ?_; conv => whnf) | (refine FillK.lit rfl ?_; conv => whnf) | (refine WrapK.i64 (by omega) (by omega) ?_; conv => whnf) | (refine WrapK.u64 (by omega) (by omega) ?_; conv => whnf) | (refine WrapK.u32 (by omega) (by omega) ?_; conv => whnf) | (refine WrapK.u8 (by omega) (by omega) ?_; conv => whnf) | (refine iteT (by omega) ?_; conv => whnf) | (refine iteF (by omega) ?_; conv => whnf) | (refine iteET (by omega) ?_; conv => whnf) | (refine iteEF (by omega) ?_; conv => whnf) | (refine iteNT (by omega) ?_; conv => whnf) | (refine iteNF (by omega) ?_; conv => whnf))
    refine ⟨Nat, [0, 2, 3, 4, 5, 6, 7, 9, 10, 11, 15, 22, 38, 45, 75], fun k => [(8, .int .i64 (k : Nat))], fun k h' => k ≤ 33 ∧ Hp h0 h' [Res.ob pb (.cells (polyB.map bitV).toArray 3 (0, 0)), Res.ob b (.cells ((divMid L i k t).map bitV ++ r).toArray 3 (0, 0))], fun k => 33 - k, ?_⟩
    conv => whnf
    refine ⟨⟨0, ⟨rfl, trivial⟩, by omega, H⟩, ?_⟩
    clear H
    rintro k h6 ⟨kA, H⟩
    by_cases ck : k = 33
    · subst ck
      rw [hn] at H
      conv => whnf
      repeat (first | (refine cnd_intro (by first | (simp; done) | (simp; omega) | omega | (simp only [Bool.and_eq_true, decide_eq_true_eq]; omega)) ?_; conv => whnf) | (refine Hp.ld H 0 rfl rfl ?_; conv => whnf) | (refine Hp.ld H 1 rfl rfl ?_; conv => whnf) | (refine Hp.ld H 2 rfl rfl ?_; conv => whnf) | (refine Hp.ld H 3 rfl rfl ?_; conv => whnf) | (refine Hp.ld H 4 rfl rfl ?_; conv => whnf) | (refine Hp.ld H 5 rfl rfl ?_; conv => whnf) | (refine Hp.st H 0 rfl rfl rfl rfl rfl ?_; intro h H; conv => whnf) | (refine Hp.st H 1 rfl rfl rfl rfl rfl ?_; intro h H; conv => whnf) | (refine Hp.st H 2 rfl rfl rfl rfl rfl ?_; intro h H; conv => whnf) | (refine Hp.st H 3 rfl rfl rfl rfl rfl ?_; intro h H; conv => whnf) | (refine Hp.st H 4 rfl rfl rfl rfl rfl ?_; intro h H; conv => whnf) | (refine Hp.st H 5 rfl rfl rfl rfl rfl ?_; intro h H; conv => whnf) | (intro b h N; replace H := Hp.new H N; clear N; conv => whnf) | (refine Drawn.mk (by kernel_rfl) ?_; conv => whnf) | (refine FillK.row rfl ?_; conv => whnf) | (refine FillK.lit rfl ?_; conv => whnf) | (refine WrapK.i64 (by omega) (by omega) ?_; conv => whnf) | (refine WrapK.u64 (by omega) (by omega) ?_; conv => whnf) | (refine WrapK.u32 (by omega) (by omega) ?_; conv => whnf) | (refine WrapK.u8 (by omega) (by omega) ?_; conv => whnf) | (refine iteT (by omega) ?_; conv => whnf) | (refine iteF (by omega) ?_; conv => whnf) | (refine iteET (by omega) ?_; conv => whnf) | (refine iteEF (by omega) ?_; conv => whnf) | (refine iteNT (by omega) ?_; conv => whnf) | (refine iteNF (by omega) ?_; conv => whnf))
      exact ⟨i + 1, ⟨(by first | rfl | (show Value.int .i64 _ = _; congr 1; omega) | (show Value.int .i64 _ = _; rw [wrap64_id (by omega) (by omega)]; first | rfl | (congr 1; omega))), trivial⟩, (by repeat (first | exact trivial | refine ⟨rfl, ?_⟩)), ⟨by omega, H⟩, by show 8 * L.length - (i + 1) < 8 * L.length - i; omega⟩
    have hk33 : k < 33 := by omega
    have hat := divMid_at L i (k := k) (m := k) t hk33
    have hset := divMid_set L i t hk33
    have hml : (divMid L i k t).length = 8 * L.length + 32 := by
      have := congrArg List.length hset
      rw [List.length_set] at this
      simp only [divMid, List.length_append, List.length_replicate, midB_length, List.length_drop]
      omega
    simp only [show decide (k < k) = false by simp, Bool.false_and, Bool.xor_false] at hat
    obtain ⟨y, hy⟩ := list_at (L := polyB) (i := k) (by show k < 33; omega)
    have hyd : polyB.getD k false = y := by rw [List.getD_eq_getElem?_getD, hy]; rfl
    rw [hyd] at hset
    generalize (regBits (regAt L i) ++ [t]).getD k false = x at *
    have bx := bitI_lt x
    have by_ := bitI_lt y
    conv => whnf
    repeat (first | (refine cnd_intro (by first | (simp; done) | (simp; omega) | omega | (simp only [Bool.and_eq_true, decide_eq_true_eq]; omega)) ?_; conv => whnf) | (refine Hp.ld H 0 rfl rfl ?_; conv => whnf) | (refine Hp.ld H 1 rfl rfl ?_; conv => whnf) | (refine Hp.ld H 2 rfl rfl ?_; conv => whnf) | (refine Hp.ld H 3 rfl rfl ?_; conv => whnf) | (refine Hp.ld H 4 rfl rfl ?_; conv => whnf) | (refine Hp.ld H 5 rfl rfl ?_; conv => whnf) | (refine Hp.st H 0 rfl rfl rfl rfl rfl ?_; intro h H; conv => whnf) | (refine Hp.st H 1 rfl rfl rfl rfl rfl ?_; intro h H; conv => whnf) | (refine Hp.st H 2 rfl rfl rfl rfl rfl ?_; intro h H; conv => whnf) | (refine Hp.st H 3 rfl rfl rfl rfl rfl ?_; intro h H; conv => whnf) | (refine Hp.st H 4 rfl rfl rfl rfl rfl ?_; intro h H; conv => whnf) | (refine Hp.st H 5 rfl rfl rfl rfl rfl ?_; intro h H; conv => whnf) | (intro b h N; replace H := Hp.new H N; clear N; conv => whnf) | (refine Drawn.mk (by kernel_rfl) ?_; conv => whnf) | (refine FillK.row rfl ?_; conv => whnf) | (refine FillK.lit rfl ?_; conv => whnf) | (refine WrapK.i64 (by omega) (by omega) ?_; conv => whnf) | (refine WrapK.u64 (by omega) (by omega) ?_; conv => whnf) | (refine WrapK.u32 (by omega) (by omega) ?_; conv => whnf) | (refine WrapK.u8 (by omega) (by omega) ?_; conv => whnf) | (refine iteT (by omega) ?_; conv => whnf) | (refine iteF (by omega) ?_; conv => whnf) | (refine iteET (by omega) ?_; conv => whnf) | (refine iteEF (by omega) ?_; conv => whnf) | (refine iteNT (by omega) ?_; conv => whnf) | (refine iteNF (by omega) ?_; conv => whnf))
    refine Hp.ldAt H 1 rfl (y := iT) rfl rfl (o := i + k) (by first | omega | (simp; done) | (simp; omega)) (bitV_at hat) ?_
    conv => whnf
    repeat (first | (refine cnd_intro (by first | (simp; done) | (simp; omega) | omega | (simp only [Bool.and_eq_true, decide_eq_true_eq]; omega)) ?_; conv => whnf) | (refine Hp.ld H 0 rfl rfl ?_; conv => whnf) | (refine Hp.ld H 1 rfl rfl ?_; conv => whnf) | (refine Hp.ld H 2 rfl rfl ?_; conv => whnf) | (refine Hp.ld H 3 rfl rfl ?_; conv => whnf) | (refine Hp.ld H 4 rfl rfl ?_; conv => whnf) | (refine Hp.ld H 5 rfl rfl ?_; conv => whnf) | (refine Hp.st H 0 rfl rfl rfl rfl rfl ?_; intro h H; conv => whnf) | (refine Hp.st H 1 rfl rfl rfl rfl rfl ?_; intro h H; conv => whnf) | (refine Hp.st H 2 rfl rfl rfl rfl rfl ?_; intro h H; conv => whnf) | (refine Hp.st H 3 rfl rfl rfl rfl rfl ?_; intro h H; conv => whnf) | (refine Hp.st H 4 rfl rfl rfl rfl rfl ?_; intro h H; conv => whnf) | (refine Hp.st H 5 rfl rfl rfl rfl rfl ?_; intro h H; conv => whnf) | (intro b h N; replace H := Hp.new H N; clear N; conv => whnf) | (refine Drawn.mk (by kernel_rfl) ?_; conv => whnf) | (refine FillK.row rfl ?_; conv => whnf) | (refine FillK.lit rfl ?_; conv => whnf) | (refine WrapK.i64 (by omega) (by omega) ?_; conv => whnf) | (refine WrapK.u64 (by omega) (by omega) ?_; conv => whnf) | (refine WrapK.u32 (by omega) (by omega) ?_; conv => whnf) | (refine WrapK.u8 (by omega) (by omega) ?_; conv => whnf) | (refine iteT (by omega) ?_; conv => whnf) | (refine iteF (by omega) ?_; conv => whnf) | (refine iteET (by omega) ?_; conv => whnf) | (refine iteEF (by omega) ?_; conv => whnf) | (refine iteNT (by omega) ?_; conv => whnf) | (refine iteNF (by omega) ?_; conv => whnf))
    refine Hp.ldAt H 0 rfl (y := iT) rfl rfl (o := k) (by first | omega | (simp; done) | (simp; omega)) (by rw [List.getElem?_map, hy]; rfl) ?_
    conv => whnf
    repeat (first | (refine cnd_intro (by first | (simp; done) | (simp; omega) | omega | (simp only [Bool.and_eq_true, decide_eq_true_eq]; omega)) ?_; conv => whnf) | (refine Hp.ld H 0 rfl rfl ?_; conv => whnf) | (refine Hp.ld H 1 rfl rfl ?_; conv => whnf) | (refine Hp.ld H 2 rfl rfl ?_; conv => whnf) | (refine Hp.ld H 3 rfl rfl ?_; conv => whnf) | (refine Hp.ld H 4 rfl rfl ?_; conv => whnf) | (refine Hp.ld H 5 rfl rfl ?_; conv => whnf) | (refine Hp.st H 0 rfl rfl rfl rfl rfl ?_; intro h H; conv => whnf) | (refine Hp.st H 1 rfl rfl rfl rfl rfl ?_; intro h H; conv => whnf) | (refine Hp.st H 2 rfl rfl rfl rfl rfl ?_; intro h H; conv => whnf) | (refine Hp.st H 3 rfl rfl rfl rfl rfl ?_; intro h H; conv => whnf) | (refine Hp.st H 4 rfl rfl rfl rfl rfl ?_; intro h H; conv => whnf) | (refine Hp.st H 5 rfl rfl rfl rfl rfl ?_; intro h H; conv => whnf) | (intro b h N; replace H := Hp.new H N; clear N; conv => whnf) | (refine Drawn.mk (by kernel_rfl) ?_; conv => whnf) | (refine FillK.row rfl ?_; conv => whnf) | (refine FillK.lit rfl ?_; conv => whnf) | (refine WrapK.i64 (by omega) (by omega) ?_; conv => whnf) | (refine WrapK.u64 (by omega) (by omega) ?_; conv => whnf) | (refine WrapK.u32 (by omega) (by omega) ?_; conv => whnf) | (refine WrapK.u8 (by omega) (by omega) ?_; conv => whnf) | (refine iteT (by omega) ?_; conv => whnf) | (refine iteF (by omega) ?_; conv => whnf) | (refine iteET (by omega) ?_; conv => whnf) | (refine iteEF (by omega) ?_; conv => whnf) | (refine iteNT (by omega) ?_; conv => whnf) | (refine iteNF (by omega) ?_; conv => whnf))
    rw [bitI_xor]
    conv => whnf
    repeat (first | (refine cnd_intro (by first | (simp; done) | (simp; omega) | omega | (simp only [Bool.and_eq_true, decide_eq_true_eq]; omega)) ?_; conv => whnf) | (refine Hp.ld H 0 rfl rfl ?_; conv => whnf) | (refine Hp.ld H 1 rfl rfl ?_; conv => whnf) | (refine Hp.ld H 2 rfl rfl ?_; conv => whnf) | (refine Hp.ld H 3 rfl rfl ?_; conv => whnf) | (refine Hp.ld H 4 rfl rfl ?_; conv => whnf) | (refine Hp.ld H 5 rfl rfl ?_; conv => whnf) | (refine Hp.st H 0 rfl rfl rfl rfl rfl ?_; intro h H; conv => whnf) | (refine Hp.st H 1 rfl rfl rfl rfl rfl ?_; intro h H; conv => whnf) | (refine Hp.st H 2 rfl rfl rfl rfl rfl ?_; intro h H; conv => whnf) | (refine Hp.st H 3 rfl rfl rfl rfl rfl ?_; intro h H; conv => whnf) | (refine Hp.st H 4 rfl rfl rfl rfl rfl ?_; intro h H; conv => whnf) | (refine Hp.st H 5 rfl rfl rfl rfl rfl ?_; intro h H; conv => whnf) | (intro b h N; replace H := Hp.new H N; clear N; conv => whnf) | (refine Drawn.mk (by kernel_rfl) ?_; conv => whnf) | (refine FillK.row rfl ?_; conv => whnf) | (refine FillK.lit rfl ?_; conv => whnf) | (refine WrapK.i64 (by omega) (by omega) ?_; conv => whnf) | (refine WrapK.u64 (by omega) (by omega) ?_; conv => whnf) | (refine WrapK.u32 (by omega) (by omega) ?_; conv => whnf) | (refine WrapK.u8 (by omega) (by omega) ?_; conv => whnf) | (refine iteT (by omega) ?_; conv => whnf) | (refine iteF (by omega) ?_; conv => whnf) | (refine iteET (by omega) ?_; conv => whnf) | (refine iteEF (by omega) ?_; conv => whnf) | (refine iteNT (by omega) ?_; conv => whnf) | (refine iteNF (by omega) ?_; conv => whnf))
    refine Hp.stAt H 1 rfl (y := iT) rfl rfl rfl rfl (o := i + k) (by first | omega | (simp; done) | (simp; omega)) (by simp; omega) ?_
    intro h7 H
    rw [show (Value.int .i64 (bitI (x ^^ y))) = bitV (x ^^ y) from rfl, bitV_set (by omega), hset] at H
    conv => whnf
    repeat (first | (refine cnd_intro (by first | (simp; done) | (simp; omega) | omega | (simp only [Bool.and_eq_true, decide_eq_true_eq]; omega)) ?_; conv => whnf) | (refine Hp.ld H 0 rfl rfl ?_; conv => whnf) | (refine Hp.ld H 1 rfl rfl ?_; conv => whnf) | (refine Hp.ld H 2 rfl rfl ?_; conv => whnf) | (refine Hp.ld H 3 rfl rfl ?_; conv => whnf) | (refine Hp.ld H 4 rfl rfl ?_; conv => whnf) | (refine Hp.ld H 5 rfl rfl ?_; conv => whnf) | (refine Hp.st H 0 rfl rfl rfl rfl rfl ?_; intro h H; conv => whnf) | (refine Hp.st H 1 rfl rfl rfl rfl rfl ?_; intro h H; conv => whnf) | (refine Hp.st H 2 rfl rfl rfl rfl rfl ?_; intro h H; conv => whnf) | (refine Hp.st H 3 rfl rfl rfl rfl rfl ?_; intro h H; conv => whnf) | (refine Hp.st H 4 rfl rfl rfl rfl rfl ?_; intro h H; conv => whnf) | (refine Hp.st H 5 rfl rfl rfl rfl rfl ?_; intro h H; conv => whnf) | (intro b h N; replace H := Hp.new H N; clear N; conv => whnf) | (refine Drawn.mk (by kernel_rfl) ?_; conv => whnf) | (refine FillK.row rfl ?_; conv => whnf) | (refine FillK.lit rfl ?_; conv => whnf) | (refine WrapK.i64 (by omega) (by omega) ?_; conv => whnf) | (refine WrapK.u64 (by omega) (by omega) ?_; conv => whnf) | (refine WrapK.u32 (by omega) (by omega) ?_; conv => whnf) | (refine WrapK.u8 (by omega) (by omega) ?_; conv => whnf) | (refine iteT (by omega) ?_; conv => whnf) | (refine iteF (by omega) ?_; conv => whnf) | (refine iteET (by omega) ?_; conv => whnf) | (refine iteEF (by omega) ?_; conv => whnf) | (refine iteNT (by omega) ?_; conv => whnf) | (refine iteNF (by omega) ?_; conv => whnf))
    exact ⟨k + 1, ⟨(by first | rfl | (show Value.int .i64 _ = _; congr 1; omega) | (show Value.int .i64 _ = _; rw [wrap64_id (by omega) (by omega)]; first | rfl | (congr 1; omega))), trivial⟩, (by repeat (first | exact trivial | refine ⟨rfl, ?_⟩)), ⟨by omega, H⟩, by show 33 - (k + 1) < 33 - k; omega⟩
  subst ci
  have hde := divAt_end L
  have hdl := divAt_length L (i := 8 * L.length) (Nat.le_refl _)
  conv => whnf
  repeat (first | (refine cnd_intro (by first | (simp; done) | (simp; omega) | omega | (simp only [Bool.and_eq_true, decide_eq_true_eq]; omega)) ?_; conv => whnf) | (refine Hp.ld H 0 rfl rfl ?_; conv => whnf) | (refine Hp.ld H 1 rfl rfl ?_; conv => whnf) | (refine Hp.ld H 2 rfl rfl ?_; conv => whnf) | (refine Hp.ld H 3 rfl rfl ?_; conv => whnf) | (refine Hp.ld H 4 rfl rfl ?_; conv => whnf) | (refine Hp.ld H 5 rfl rfl ?_; conv => whnf) | (refine Hp.st H 0 rfl rfl rfl rfl rfl ?_; intro h H; conv => whnf) | (refine Hp.st H 1 rfl rfl rfl rfl rfl ?_; intro h H; conv => whnf) | (refine Hp.st H 2 rfl rfl rfl rfl rfl ?_; intro h H; conv => whnf) | (refine Hp.st H 3 rfl rfl rfl rfl rfl ?_; intro h H; conv => whnf) | (refine Hp.st H 4 rfl rfl rfl rfl rfl ?_; intro h H; conv => whnf) | (refine Hp.st H 5 rfl rfl rfl rfl rfl ?_; intro h H; conv => whnf) | (intro b h N; replace H := Hp.new H N; clear N; conv => whnf) | (refine Drawn.mk (by kernel_rfl) ?_; conv => whnf) | (refine FillK.row rfl ?_; conv => whnf) | (refine FillK.lit rfl ?_; conv => whnf) | (refine WrapK.i64 (by omega) (by omega) ?_; conv => whnf) | (refine WrapK.u64 (by omega) (by omega) ?_; conv => whnf) | (refine WrapK.u32 (by omega) (by omega) ?_; conv => whnf) | (refine WrapK.u8 (by omega) (by omega) ?_; conv => whnf) | (refine iteT (by omega) ?_; conv => whnf) | (refine iteF (by omega) ?_; conv => whnf) | (refine iteET (by omega) ?_; conv => whnf) | (refine iteEF (by omega) ?_; conv => whnf) | (refine iteNT (by omega) ?_; conv => whnf) | (refine iteNF (by omega) ?_; conv => whnf))
  rw [cutA_some]
  have hx := div_sum L
  generalize hR : crcAll 4294967295#32 L = R at *
  have hbit : ∀ i, i < 32 → bitI (!(R.getLsbD i)) = (((crcSum L).toNat / 2 ^ i % 2 : Nat) : Int) := by
    intro i hi
    have e : (crcSum L).getLsbD i = !(R.getLsbD i) := by rw [← hx, BitVec.getLsbD_not]; simp [hi]
    rw [← e, BitVec.getLsbD, Nat.testBit_eq_decide_div_mod_eq]
    generalize (crcSum L).toNat / 2 ^ i = q
    unfold bitI
    by_cases h : q % 2 = 1
    · rw [decide_eq_true h, if_pos rfl, h]; rfl
    · rw [decide_eq_false h, if_neg (by decide)]
      have : q % 2 = 0 := by omega
      rw [this]; rfl
  have hlt := (crcSum L).isLt
  generalize (crcSum L).toNat = x at *
  refine ⟨Nat, [0, 2, 3, 4, 5, 6, 7, 8, 10, 15, 22, 38, 45, 49], fun j => [(11, .int .i64 (31 - (j : Int))), (9, .int .u32 ((x / 2 ^ (32 - j) : Nat) : Int))], fun j h' => j ≤ 32 ∧ Hp h0 h' [Res.ob pb (.cells (polyB.map bitV).toArray 3 (0, 0)), Res.ob b (.cells ((divAt L (8 * L.length)).map bitV ++ r).toArray 3 (0, 0))], fun j => 32 - j, ?_⟩
  conv => whnf
  refine ⟨⟨0, ⟨(by first | rfl | (show Value.int .i64 _ = _; congr 1; omega) | (show Value.int .i64 _ = _; rw [wrap64_id (by omega) (by omega)]; first | rfl | (congr 1; omega))), ?_, trivial⟩, by omega, H⟩, ?_⟩
  · show Value.int .u32 _ = _
    have : x / 2 ^ (32 - 0) = 0 := Nat.div_eq_of_lt hlt
    rw [this]; rfl
  clear H
  rintro j h6 ⟨jA, H⟩
  by_cases cj : j = 32
  · subst cj
    conv => whnf
    repeat (first | (refine cnd_intro (by first | (simp; done) | (simp; omega) | omega | (simp only [Bool.and_eq_true, decide_eq_true_eq]; omega)) ?_; conv => whnf) | (refine Hp.ld H 0 rfl rfl ?_; conv => whnf) | (refine Hp.ld H 1 rfl rfl ?_; conv => whnf) | (refine Hp.ld H 2 rfl rfl ?_; conv => whnf) | (refine Hp.ld H 3 rfl rfl ?_; conv => whnf) | (refine Hp.ld H 4 rfl rfl ?_; conv => whnf) | (refine Hp.ld H 5 rfl rfl ?_; conv => whnf) | (refine Hp.st H 0 rfl rfl rfl rfl rfl ?_; intro h H; conv => whnf) | (refine Hp.st H 1 rfl rfl rfl rfl rfl ?_; intro h H; conv => whnf) | (refine Hp.st H 2 rfl rfl rfl rfl rfl ?_; intro h H; conv => whnf) | (refine Hp.st H 3 rfl rfl rfl rfl rfl ?_; intro h H; conv => whnf) | (refine Hp.st H 4 rfl rfl rfl rfl rfl ?_; intro h H; conv => whnf) | (refine Hp.st H 5 rfl rfl rfl rfl rfl ?_; intro h H; conv => whnf) | (intro b h N; replace H := Hp.new H N; clear N; conv => whnf) | (refine Drawn.mk (by kernel_rfl) ?_; conv => whnf) | (refine FillK.row rfl ?_; conv => whnf) | (refine FillK.lit rfl ?_; conv => whnf) | (refine WrapK.i64 (by omega) (by omega) ?_; conv => whnf) | (refine WrapK.u64 (by omega) (by omega) ?_; conv => whnf) | (refine WrapK.u32 (by omega) (by omega) ?_; conv => whnf) | (refine WrapK.u8 (by omega) (by omega) ?_; conv => whnf) | (refine iteT (by omega) ?_; conv => whnf) | (refine iteF (by omega) ?_; conv => whnf) | (refine iteET (by omega) ?_; conv => whnf) | (refine iteEF (by omega) ?_; conv => whnf) | (refine iteNT (by omega) ?_; conv => whnf) | (refine iteNF (by omega) ?_; conv => whnf))
    refine ⟨H.keep, ?_⟩
    rw [tup_one]
    simp
  have hj : j < 32 := by omega
  have hd : (divAt L (8 * L.length))[8 * L.length + (31 - j)]? = some (R.getLsbD (31 - j)) := by
    rw [← List.getElem?_drop, hde, regBits_at _ (by omega)]
  have hb := hbit (31 - j) (by omega)
  have e31 : 32 - j = (31 - j) + 1 := by omega
  have hdd : x / 2 ^ (32 - j) = x / 2 ^ (31 - j) / 2 := by rw [e31, Nat.pow_succ, Nat.div_div_eq_div_mul]
  have hle : x / 2 ^ (31 - j) ≤ x := Nat.div_le_self _ _
  have hx32 : x < 4294967296 := hlt
  have e32 : 32 - (j + 1) = 31 - j := by omega
  generalize hy : x / 2 ^ (31 - j) = y at *
  have bz := bitI_lt (R.getLsbD (31 - j))
  conv => whnf
  rw [hdd]
  conv => whnf
  repeat (first | (refine cnd_intro (by first | (simp; done) | (simp; omega) | omega | (simp only [Bool.and_eq_true, decide_eq_true_eq]; omega)) ?_; conv => whnf) | (refine Hp.ld H 0 rfl rfl ?_; conv => whnf) | (refine Hp.ld H 1 rfl rfl ?_; conv => whnf) | (refine Hp.ld H 2 rfl rfl ?_; conv => whnf) | (refine Hp.ld H 3 rfl rfl ?_; conv => whnf) | (refine Hp.ld H 4 rfl rfl ?_; conv => whnf) | (refine Hp.ld H 5 rfl rfl ?_; conv => whnf) | (refine Hp.st H 0 rfl rfl rfl rfl rfl ?_; intro h H; conv => whnf) | (refine Hp.st H 1 rfl rfl rfl rfl rfl ?_; intro h H; conv => whnf) | (refine Hp.st H 2 rfl rfl rfl rfl rfl ?_; intro h H; conv => whnf) | (refine Hp.st H 3 rfl rfl rfl rfl rfl ?_; intro h H; conv => whnf) | (refine Hp.st H 4 rfl rfl rfl rfl rfl ?_; intro h H; conv => whnf) | (refine Hp.st H 5 rfl rfl rfl rfl rfl ?_; intro h H; conv => whnf) | (intro b h N; replace H := Hp.new H N; clear N; conv => whnf) | (refine Drawn.mk (by kernel_rfl) ?_; conv => whnf) | (refine FillK.row rfl ?_; conv => whnf) | (refine FillK.lit rfl ?_; conv => whnf) | (refine WrapK.i64 (by omega) (by omega) ?_; conv => whnf) | (refine WrapK.u64 (by omega) (by omega) ?_; conv => whnf) | (refine WrapK.u32 (by omega) (by omega) ?_; conv => whnf) | (refine WrapK.u8 (by omega) (by omega) ?_; conv => whnf) | (refine iteT (by omega) ?_; conv => whnf) | (refine iteF (by omega) ?_; conv => whnf) | (refine iteET (by omega) ?_; conv => whnf) | (refine iteEF (by omega) ?_; conv => whnf) | (refine iteNT (by omega) ?_; conv => whnf) | (refine iteNF (by omega) ?_; conv => whnf))
  refine Hp.ldAt H 1 rfl (y := iT) rfl rfl (o := 8 * L.length + (31 - j)) (by rw [if_neg (by omega)]; simp; omega) (bitV_at hd) ?_
  conv => whnf
  repeat (first | (refine cnd_intro (by first | (simp; done) | (simp; omega) | omega | (simp only [Bool.and_eq_true, decide_eq_true_eq]; omega)) ?_; conv => whnf) | (refine Hp.ld H 0 rfl rfl ?_; conv => whnf) | (refine Hp.ld H 1 rfl rfl ?_; conv => whnf) | (refine Hp.ld H 2 rfl rfl ?_; conv => whnf) | (refine Hp.ld H 3 rfl rfl ?_; conv => whnf) | (refine Hp.ld H 4 rfl rfl ?_; conv => whnf) | (refine Hp.ld H 5 rfl rfl ?_; conv => whnf) | (refine Hp.st H 0 rfl rfl rfl rfl rfl ?_; intro h H; conv => whnf) | (refine Hp.st H 1 rfl rfl rfl rfl rfl ?_; intro h H; conv => whnf) | (refine Hp.st H 2 rfl rfl rfl rfl rfl ?_; intro h H; conv => whnf) | (refine Hp.st H 3 rfl rfl rfl rfl rfl ?_; intro h H; conv => whnf) | (refine Hp.st H 4 rfl rfl rfl rfl rfl ?_; intro h H; conv => whnf) | (refine Hp.st H 5 rfl rfl rfl rfl rfl ?_; intro h H; conv => whnf) | (intro b h N; replace H := Hp.new H N; clear N; conv => whnf) | (refine Drawn.mk (by kernel_rfl) ?_; conv => whnf) | (refine FillK.row rfl ?_; conv => whnf) | (refine FillK.lit rfl ?_; conv => whnf) | (refine WrapK.i64 (by omega) (by omega) ?_; conv => whnf) | (refine WrapK.u64 (by omega) (by omega) ?_; conv => whnf) | (refine WrapK.u32 (by omega) (by omega) ?_; conv => whnf) | (refine WrapK.u8 (by omega) (by omega) ?_; conv => whnf) | (refine iteT (by omega) ?_; conv => whnf) | (refine iteF (by omega) ?_; conv => whnf) | (refine iteET (by omega) ?_; conv => whnf) | (refine iteEF (by omega) ?_; conv => whnf) | (refine iteNT (by omega) ?_; conv => whnf) | (refine iteNF (by omega) ?_; conv => whnf))
  rw [bitI_not, hb]
  conv => whnf
  repeat (first | (refine cnd_intro (by first | (simp; done) | (simp; omega) | omega | (simp only [Bool.and_eq_true, decide_eq_true_eq]; omega)) ?_; conv => whnf) | (refine Hp.ld H 0 rfl rfl ?_; conv => whnf) | (refine Hp.ld H 1 rfl rfl ?_; conv => whnf) | (refine Hp.ld H 2 rfl rfl ?_; conv => whnf) | (refine Hp.ld H 3 rfl rfl ?_; conv => whnf) | (refine Hp.ld H 4 rfl rfl ?_; conv => whnf) | (refine Hp.ld H 5 rfl rfl ?_; conv => whnf) | (refine Hp.st H 0 rfl rfl rfl rfl rfl ?_; intro h H; conv => whnf) | (refine Hp.st H 1 rfl rfl rfl rfl rfl ?_; intro h H; conv => whnf) | (refine Hp.st H 2 rfl rfl rfl rfl rfl ?_; intro h H; conv => whnf) | (refine Hp.st H 3 rfl rfl rfl rfl rfl ?_; intro h H; conv => whnf) | (refine Hp.st H 4 rfl rfl rfl rfl rfl ?_; intro h H; conv => whnf) | (refine Hp.st H 5 rfl rfl rfl rfl rfl ?_; intro h H; conv => whnf) | (intro b h N; replace H := Hp.new H N; clear N; conv => whnf) | (refine Drawn.mk (by kernel_rfl) ?_; conv => whnf) | (refine FillK.row rfl ?_; conv => whnf) | (refine FillK.lit rfl ?_; conv => whnf) | (refine WrapK.i64 (by omega) (by omega) ?_; conv => whnf) | (refine WrapK.u64 (by omega) (by omega) ?_; conv => whnf) | (refine WrapK.u32 (by omega) (by omega) ?_; conv => whnf) | (refine WrapK.u8 (by omega) (by omega) ?_; conv => whnf) | (refine iteT (by omega) ?_; conv => whnf) | (refine iteF (by omega) ?_; conv => whnf) | (refine iteET (by omega) ?_; conv => whnf) | (refine iteEF (by omega) ?_; conv => whnf) | (refine iteNT (by omega) ?_; conv => whnf) | (refine iteNF (by omega) ?_; conv => whnf))
  refine ⟨j + 1, ⟨(by first | rfl | (show Value.int .i64 _ = _; congr 1; omega) | (show Value.int .i64 _ = _; rw [wrap64_id (by omega) (by omega)]; first | rfl | (congr 1; omega))), ?_, trivial⟩, (by repeat (first | exact trivial | refine ⟨rfl, ?_⟩)), ⟨by omega, H⟩, by show 32 - (j + 1) < 32 - j; omega⟩
  show Value.int .u32 _ = Value.int .u32 _
  congr 1
  show _ = ((x / 2 ^ (32 - (j + 1)) : Nat) : Int)
  rw [e32, hy]
  omega

end Go.Proofs.Ytlgekbknebbnlaa
