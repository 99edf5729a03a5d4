import Derived.Test.YtlgekbknebbnlaaMacRef
namespace Go.Proofs.Ytlgekbknebbnlaa
open Go.Vc
set_option maxRecDepth 10000
set_option maxHeartbeats 4000000

/-! ### a frame, as the document builds it -/

theorem tagB_list (F : Hdr) {n : Nat} (p0 : 0 ≤ F.pcp) (p7 : F.pcp ≤ 7) (v0 : 0 ≤ F.vid) (v7 : F.vid ≤ 4094) (hn : (n : Int) = F.pcp * 8192 + F.vid + (if F.dei = true then 4096 else 0)) : F.tagB = [129, 0, UInt8.ofNat (n / 256), UInt8.ofNat (n % 256)] ∧ n < 65536 := by
  obtain ⟨dst, src, tagged, pcp, dei, vid, typ, llc⟩ := F
  obtain ⟨p, rfl⟩ := Int.eq_ofNat_of_zero_le p0
  obtain ⟨v, rfl⟩ := Int.eq_ofNat_of_zero_le v0
  dsimp only at *
  have hd : ∃ d : Nat, d = dei.toNat ∧ d < 2 ∧ (if dei = true then (4096 : Int) else 0) = d * 4096 := ⟨dei.toNat, rfl, by cases dei <;> decide, by cases dei <;> rfl⟩
  obtain ⟨d, hd, hd2, hd3⟩ := hd
  rw [hd3] at hn
  refine ⟨?_, by omega⟩
  unfold Hdr.tagB
  dsimp only
  rw [← hd]
  show beBytes (tagN p d v) 4 = _
  have hN : tagN p d v = 33024 * 65536 + n := by unfold tagN; omega
  rw [hN]
  have g : ∀ a b : Nat, a % 256 = b % 256 → UInt8.ofNat a = UInt8.ofNat b := fun a b h => UInt8.toNat_inj.1 (by rw [u8_ofNat, u8_ofNat, h])
  simp only [beBytes]
  rw [g ((33024 * 65536 + n) / 256 ^ 3 % 256) 129 (by omega), g ((33024 * 65536 + n) / 256 ^ 2 % 256) 0 (by omega), g ((33024 * 65536 + n) / 256 ^ 1 % 256) (n / 256) (by omega), g ((33024 * 65536 + n) / 256 ^ 0 % 256) (n % 256) (by omega)]
  rfl

theorem byteV_ofNat {k : Nat} (h : k < 256) : byteV (UInt8.ofNat k) = .int .u8 (k : Nat) := by
  unfold byteV
  rw [u8_ofNat, Nat.mod_eq_of_lt h]

theorem refBuild_call (h0 : Heap) (F : Hdr) (v : Value) (D : List UInt8) (hv : BytesV h0 v D) (hck : F.check D.length = 0) :
    CallK Try.prog 53 #[.agg F.cells.toArray, v] h0 fun r h' => Keep (fun _ => False) h0 h' ∧ OwnS h0.size h' 5 1 r (F.build D).length ((F.build D).map byteV) := by
  obtain ⟨A, c, rfl, hc, hr, hA0⟩ := hv.out
  obtain ⟨_, hn, _, hp0, hp7, hv0, hv7, _, ht0, ht7, _⟩ := check_ok hck
  refine CallK.of_vc EW_ok [0, 1, 2, 4, 5, 6, 7, 8, 17, 25, 53, 60] Try.func53 rfl (Nat.le_of_ble_eq_true rfl) ?_
  have H := Hp.start h0
  conv => whnf
  repeat (first | (refine cnd_intro (by first | (simp; done) | (simp; omega) | omega | (simp only [Bool.and_eq_true, decide_eq_true_eq]; omega)) ?_; conv => whnf) | (refine Hp.ld H 0 rfl rfl ?_; conv => whnf) | (refine Hp.ld H 1 rfl rfl ?_; conv => whnf) | (refine Hp.ld H 2 rfl rfl ?_; conv => whnf) | (refine Hp.ld H 3 rfl rfl ?_; conv => whnf) | (refine Hp.ld H 4 rfl rfl ?_; conv => whnf) | (refine Hp.ld H 5 rfl rfl ?_; conv => whnf) | (refine Hp.st H 0 rfl rfl rfl rfl rfl ?_; intro h H; conv => whnf) | (refine Hp.st H 1 rfl rfl rfl rfl rfl ?_; intro h H; conv => whnf) | (refine Hp.st H 2 rfl rfl rfl rfl rfl ?_; intro h H; conv => whnf) | (refine Hp.st H 3 rfl rfl rfl rfl rfl ?_; intro h H; conv => whnf) | (refine Hp.st H 4 rfl rfl rfl rfl rfl ?_; intro h H; conv => whnf) | (refine Hp.st H 5 rfl rfl rfl rfl rfl ?_; intro h H; conv => whnf) | (intro b h N; replace H := Hp.new H N; clear N; conv => whnf) | (refine Drawn.mk (by kernel_rfl) ?_; conv => whnf) | (refine FillK.row rfl ?_; conv => whnf) | (refine FillK.lit rfl ?_; conv => whnf) | (refine WrapK.i64 (by omega) (by omega) ?_; conv => whnf) | (refine WrapK.u64 (by omega) (by omega) ?_; conv => whnf) | (refine WrapK.u32 (by omega) (by omega) ?_; conv => whnf) | (refine WrapK.u8 (by omega) (by omega) ?_; conv => whnf) | (refine iteT (by omega) ?_; conv => whnf) | (refine iteF (by omega) ?_; conv => whnf) | (refine iteET (by omega) ?_; conv => whnf) | (refine iteEF (by omega) ?_; conv => whnf) | (refine iteNT (by omega) ?_; conv => whnf) | (refine iteNF (by omega) ?_; conv => whnf))
  replace H := H.whole 0 (n := 0) (size := 1) (xs := []) rfl rfl
  have hd := H.mid 1 (b := _) (o := 0) (n := 6) (c := 6) (p := []) (q := F.cells.drop 6) (L := F.dst.list) rfl rfl rfl rfl (Nat.le_refl _)
  refine Hp.appendB EW_ok (L := []) H 0 rfl hd rfl rfl rfl (show 0 + 6 ≤ 1000000000 by decide) ?_
  clear H hd
  intro s2 h2 H
  conv => whnf
  repeat (first | (refine cnd_intro (by first | (simp; done) | (simp; omega) | omega | (simp only [Bool.and_eq_true, decide_eq_true_eq]; omega)) ?_; conv => whnf) | (refine Hp.ld H 0 rfl rfl ?_; conv => whnf) | (refine Hp.ld H 1 rfl rfl ?_; conv => whnf) | (refine Hp.ld H 2 rfl rfl ?_; conv => whnf) | (refine Hp.ld H 3 rfl rfl ?_; conv => whnf) | (refine Hp.ld H 4 rfl rfl ?_; conv => whnf) | (refine Hp.ld H 5 rfl rfl ?_; conv => whnf) | (refine Hp.st H 0 rfl rfl rfl rfl rfl ?_; intro h H; conv => whnf) | (refine Hp.st H 1 rfl rfl rfl rfl rfl ?_; intro h H; conv => whnf) | (refine Hp.st H 2 rfl rfl rfl rfl rfl ?_; intro h H; conv => whnf) | (refine Hp.st H 3 rfl rfl rfl rfl rfl ?_; intro h H; conv => whnf) | (refine Hp.st H 4 rfl rfl rfl rfl rfl ?_; intro h H; conv => whnf) | (refine Hp.st H 5 rfl rfl rfl rfl rfl ?_; intro h H; conv => whnf) | (intro b h N; replace H := Hp.new H N; clear N; conv => whnf) | (refine Drawn.mk (by kernel_rfl) ?_; conv => whnf) | (refine FillK.row rfl ?_; conv => whnf) | (refine FillK.lit rfl ?_; conv => whnf) | (refine WrapK.i64 (by omega) (by omega) ?_; conv => whnf) | (refine WrapK.u64 (by omega) (by omega) ?_; conv => whnf) | (refine WrapK.u32 (by omega) (by omega) ?_; conv => whnf) | (refine WrapK.u8 (by omega) (by omega) ?_; conv => whnf) | (refine iteT (by omega) ?_; conv => whnf) | (refine iteF (by omega) ?_; conv => whnf) | (refine iteET (by omega) ?_; conv => whnf) | (refine iteEF (by omega) ?_; conv => whnf) | (refine iteNT (by omega) ?_; conv => whnf) | (refine iteNF (by omega) ?_; conv => whnf))
  have hs := H.mid 1 (b := _) (o := 6) (n := 6) (c := 6) (p := F.cells.take 6) (q := F.cells.drop 12) (L := F.src.list) rfl rfl rfl rfl (Nat.le_refl _)
  refine Hp.appendB EW_ok (L := F.dst.list) H 0 rfl hs rfl rfl rfl (show 6 + 6 ≤ 1000000000 by decide) ?_
  clear H hs
  intro s3 h3 H
  conv => whnf
  repeat (first | (refine cnd_intro (by first | (simp; done) | (simp; omega) | omega | (simp only [Bool.and_eq_true, decide_eq_true_eq]; omega)) ?_; conv => whnf) | (refine Hp.ld H 0 rfl rfl ?_; conv => whnf) | (refine Hp.ld H 1 rfl rfl ?_; conv => whnf) | (refine Hp.ld H 2 rfl rfl ?_; conv => whnf) | (refine Hp.ld H 3 rfl rfl ?_; conv => whnf) | (refine Hp.ld H 4 rfl rfl ?_; conv => whnf) | (refine Hp.ld H 5 rfl rfl ?_; conv => whnf) | (refine Hp.st H 0 rfl rfl rfl rfl rfl ?_; intro h H; conv => whnf) | (refine Hp.st H 1 rfl rfl rfl rfl rfl ?_; intro h H; conv => whnf) | (refine Hp.st H 2 rfl rfl rfl rfl rfl ?_; intro h H; conv => whnf) | (refine Hp.st H 3 rfl rfl rfl rfl rfl ?_; intro h H; conv => whnf) | (refine Hp.st H 4 rfl rfl rfl rfl rfl ?_; intro h H; conv => whnf) | (refine Hp.st H 5 rfl rfl rfl rfl rfl ?_; intro h H; conv => whnf) | (intro b h N; replace H := Hp.new H N; clear N; conv => whnf) | (refine Drawn.mk (by kernel_rfl) ?_; conv => whnf) | (refine FillK.row rfl ?_; conv => whnf) | (refine FillK.lit rfl ?_; conv => whnf) | (refine WrapK.i64 (by omega) (by omega) ?_; conv => whnf) | (refine WrapK.u64 (by omega) (by omega) ?_; conv => whnf) | (refine WrapK.u32 (by omega) (by omega) ?_; conv => whnf) | (refine WrapK.u8 (by omega) (by omega) ?_; conv => whnf))
  have htl : F.tagB.length = 4 := beBytes_length _ 4
  have hX : ∀ X, X = F.dst.list ++ F.src.list ++ (if F.tagged = true then F.tagB else []) → X ++ beBytes F.typ.toNat 2 = F.front := fun X h => by rw [h]; rfl
  rcases hb : F.tagged with _ | _
  case' true =>
    rw [hb, if_pos rfl] at hX
    conv => whnf
    repeat (first | (refine cnd_intro (by first | (simp; done) | (simp; omega) | omega | (simp only [Bool.and_eq_true, decide_eq_true_eq]; omega)) ?_; conv => whnf) | (refine Hp.ld H 0 rfl rfl ?_; conv => whnf) | (refine Hp.ld H 1 rfl rfl ?_; conv => whnf) | (refine Hp.ld H 2 rfl rfl ?_; conv => whnf) | (refine Hp.ld H 3 rfl rfl ?_; conv => whnf) | (refine Hp.ld H 4 rfl rfl ?_; conv => whnf) | (refine Hp.ld H 5 rfl rfl ?_; conv => whnf) | (refine Hp.st H 0 rfl rfl rfl rfl rfl ?_; intro h H; conv => whnf) | (refine Hp.st H 1 rfl rfl rfl rfl rfl ?_; intro h H; conv => whnf) | (refine Hp.st H 2 rfl rfl rfl rfl rfl ?_; intro h H; conv => whnf) | (refine Hp.st H 3 rfl rfl rfl rfl rfl ?_; intro h H; conv => whnf) | (refine Hp.st H 4 rfl rfl rfl rfl rfl ?_; intro h H; conv => whnf) | (refine Hp.st H 5 rfl rfl rfl rfl rfl ?_; intro h H; conv => whnf) | (intro b h N; replace H := Hp.new H N; clear N; conv => whnf) | (refine Drawn.mk (by kernel_rfl) ?_; conv => whnf) | (refine FillK.row rfl ?_; conv => whnf) | (refine FillK.lit rfl ?_; conv => whnf) | (refine WrapK.i64 (by omega) (by omega) ?_; conv => whnf) | (refine WrapK.u64 (by omega) (by omega) ?_; conv => whnf) | (refine WrapK.u32 (by omega) (by omega) ?_; conv => whnf) | (refine WrapK.u8 (by omega) (by omega) ?_; conv => whnf) | (refine iteT (by omega) ?_; conv => whnf) | (refine iteF (by omega) ?_; conv => whnf) | (refine iteET (by omega) ?_; conv => whnf) | (refine iteEF (by omega) ?_; conv => whnf) | (refine iteNT (by omega) ?_; conv => whnf) | (refine iteNF (by omega) ?_; conv => whnf))
    rcases hde : F.dei with _ | _
    case' false =>
      obtain ⟨n, hn0⟩ : ∃ n : Nat, (n : Int) = F.pcp * 8192 + F.vid := ⟨(F.pcp * 8192 + F.vid).toNat, by omega⟩
      obtain ⟨etl, en⟩ := tagB_list F (n := n) hp0 hp7 hv0 hv7 (by rw [hn0, hde]; simp)
      conv => whnf
      rw [← hn0]
    case' true =>
      obtain ⟨n, hn0⟩ : ∃ n : Nat, (n : Int) = F.pcp * 8192 + F.vid + 4096 := ⟨(F.pcp * 8192 + F.vid + 4096).toNat, by omega⟩
      obtain ⟨etl, en⟩ := tagB_list F (n := n) hp0 hp7 hv0 hv7 (by rw [hn0, hde]; simp)
      conv => whnf
      repeat (first | (refine cnd_intro (by first | (simp; done) | (simp; omega) | omega | (simp only [Bool.and_eq_true, decide_eq_true_eq]; omega)) ?_; conv => whnf) | (refine Hp.ld H 0 rfl rfl ?_; conv => whnf) | (refine Hp.ld H 1 rfl rfl ?_; conv => whnf) | (refine Hp.ld H 2 rfl rfl ?_; conv => whnf) | (refine Hp.ld H 3 rfl rfl ?_; conv => whnf) | (refine Hp.ld H 4 rfl rfl ?_; conv => whnf) | (refine Hp.ld H 5 rfl rfl ?_; conv => whnf) | (refine Hp.st H 0 rfl rfl rfl rfl rfl ?_; intro h H; conv => whnf) | (refine Hp.st H 1 rfl rfl rfl rfl rfl ?_; intro h H; conv => whnf) | (refine Hp.st H 2 rfl rfl rfl rfl rfl ?_; intro h H; conv => whnf) | (refine Hp.st H 3 rfl rfl rfl rfl rfl ?_; intro h H; conv => whnf) | (refine Hp.st H 4 rfl rfl rfl rfl rfl ?_; intro h H; conv => whnf) | (refine Hp.st H 5 rfl rfl rfl rfl rfl ?_; intro h H; conv => whnf) | (intro b h N; replace H := Hp.new H N; clear N; conv => whnf) | (refine Drawn.mk (by kernel_rfl) ?_; conv => whnf) | (refine FillK.row rfl ?_; conv => whnf) | (refine FillK.lit rfl ?_; conv => whnf) | (refine WrapK.i64 (by omega) (by omega) ?_; conv => whnf) | (refine WrapK.u64 (by omega) (by omega) ?_; conv => whnf) | (refine WrapK.u32 (by omega) (by omega) ?_; conv => whnf) | (refine WrapK.u8 (by omega) (by omega) ?_; conv => whnf))
      rw [← hn0]
    all_goals
      have w1 : ((n : Nat) : Int).tdiv 256 = ((n / 256 : Nat) : Int) := (Int.ofNat_tdiv _ 256).symm
      have w2 : ((n : Nat) : Int).tmod 256 = ((n % 256 : Nat) : Int) := (Int.ofNat_tmod _ 256).symm
      conv => whnf
      repeat (first | (refine cnd_intro (by first | (simp; done) | (simp; omega) | omega | (simp only [Bool.and_eq_true, decide_eq_true_eq]; omega)) ?_; conv => whnf) | (refine Hp.ld H 0 rfl rfl ?_; conv => whnf) | (refine Hp.ld H 1 rfl rfl ?_; conv => whnf) | (refine Hp.ld H 2 rfl rfl ?_; conv => whnf) | (refine Hp.ld H 3 rfl rfl ?_; conv => whnf) | (refine Hp.ld H 4 rfl rfl ?_; conv => whnf) | (refine Hp.ld H 5 rfl rfl ?_; conv => whnf) | (refine Hp.st H 0 rfl rfl rfl rfl rfl ?_; intro h H; conv => whnf) | (refine Hp.st H 1 rfl rfl rfl rfl rfl ?_; intro h H; conv => whnf) | (refine Hp.st H 2 rfl rfl rfl rfl rfl ?_; intro h H; conv => whnf) | (refine Hp.st H 3 rfl rfl rfl rfl rfl ?_; intro h H; conv => whnf) | (refine Hp.st H 4 rfl rfl rfl rfl rfl ?_; intro h H; conv => whnf) | (refine Hp.st H 5 rfl rfl rfl rfl rfl ?_; intro h H; conv => whnf) | (intro b h N; replace H := Hp.new H N; clear N; conv => whnf) | (refine Drawn.mk (by kernel_rfl) ?_; conv => whnf) | (refine FillK.row rfl ?_; conv => whnf) | (refine FillK.lit rfl ?_; conv => whnf) | (refine WrapK.i64 (by omega) (by omega) ?_; conv => whnf) | (refine WrapK.u64 (by omega) (by omega) ?_; conv => whnf) | (refine WrapK.u32 (by omega) (by omega) ?_; conv => whnf) | (refine WrapK.u8 (by omega) (by omega) ?_; conv => whnf) | (refine iteT (by omega) ?_; conv => whnf) | (refine iteF (by omega) ?_; conv => whnf) | (refine iteET (by omega) ?_; conv => whnf) | (refine iteEF (by omega) ?_; conv => whnf) | (refine iteNT (by omega) ?_; conv => whnf) | (refine iteNF (by omega) ?_; conv => whnf))
      have hz := H.bytes 0 (L := F.tagB) (n := 4) (c := 4) rfl (by
        rw [etl]
        show [Value.int .u8 129, Value.int .u8 0, Value.int .u8 ((n : Int).tdiv 256), Value.int .u8 ((n : Int).tmod 256)] = [byteV 129, byteV 0, byteV (UInt8.ofNat (n / 256)), byteV (UInt8.ofNat (n % 256))]
        rw [w1, w2, byteV_ofNat (by omega), byteV_ofNat (by omega)]
        rfl) (by rw [htl]) (Nat.le_refl _)
      refine Hp.appendB EW_ok (L := F.dst.list ++ F.src.list) H 1 rfl hz rfl rfl rfl (by rw [htl]; show 12 + 4 ≤ _; decide) ?_
      clear H hz
      intro s4 h4 H
      replace H := H.drop 0
      have hXl : (F.dst.list ++ F.src.list ++ F.tagB).length ≤ 16 := by rw [List.length_append, htl]; show 12 + 4 ≤ _; decide
      replace hX := hX _ rfl
      generalize F.dst.list ++ F.src.list ++ F.tagB = X at *
  case' false =>
    rw [hb, if_neg (by decide), List.append_nil] at hX
    have hXl : (F.dst.list ++ F.src.list).length ≤ 16 := by show 12 ≤ _; decide
    replace hX := hX _ rfl
    generalize F.dst.list ++ F.src.list = X at *
  all_goals
    obtain ⟨t, ht, ht6⟩ : ∃ t : Nat, F.typ = t ∧ t < 65536 := ⟨F.typ.toNat, by omega, by omega⟩
    have w3 : ((t : Nat) : Int).tdiv 256 = ((t / 256 : Nat) : Int) := (Int.ofNat_tdiv _ 256).symm
    have w4 : ((t : Nat) : Int).tmod 256 = ((t % 256 : Nat) : Int) := (Int.ofNat_tmod _ 256).symm
    have htn : F.typ.toNat = t := by omega
    rw [htn] at hX
    have hb2 : beBytes t 2 = [UInt8.ofNat (t / 256), UInt8.ofNat (t % 256)] := by
      have g : ∀ a b : Nat, a % 256 = b % 256 → UInt8.ofNat a = UInt8.ofNat b := fun a b h => UInt8.toNat_inj.1 (by rw [u8_ofNat, u8_ofNat, h])
      simp only [beBytes]
      rw [g (t / 256 ^ 1 % 256) (t / 256) (by omega), g (t / 256 ^ 0 % 256) (t % 256) (by omega)]
    have hbl : (beBytes t 2).length = 2 := beBytes_length _ 2
    conv => whnf
    repeat (first | (refine cnd_intro (by first | (simp; done) | (simp; omega) | omega | (simp only [Bool.and_eq_true, decide_eq_true_eq]; omega)) ?_; conv => whnf) | (refine Hp.ld H 0 rfl rfl ?_; conv => whnf) | (refine Hp.ld H 1 rfl rfl ?_; conv => whnf) | (refine Hp.ld H 2 rfl rfl ?_; conv => whnf) | (refine Hp.ld H 3 rfl rfl ?_; conv => whnf) | (refine Hp.ld H 4 rfl rfl ?_; conv => whnf) | (refine Hp.ld H 5 rfl rfl ?_; conv => whnf) | (refine Hp.st H 0 rfl rfl rfl rfl rfl ?_; intro h H; conv => whnf) | (refine Hp.st H 1 rfl rfl rfl rfl rfl ?_; intro h H; conv => whnf) | (refine Hp.st H 2 rfl rfl rfl rfl rfl ?_; intro h H; conv => whnf) | (refine Hp.st H 3 rfl rfl rfl rfl rfl ?_; intro h H; conv => whnf) | (refine Hp.st H 4 rfl rfl rfl rfl rfl ?_; intro h H; conv => whnf) | (refine Hp.st H 5 rfl rfl rfl rfl rfl ?_; intro h H; conv => whnf) | (intro b h N; replace H := Hp.new H N; clear N; conv => whnf) | (refine Drawn.mk (by kernel_rfl) ?_; conv => whnf) | (refine FillK.row rfl ?_; conv => whnf) | (refine FillK.lit rfl ?_; conv => whnf) | (refine WrapK.i64 (by omega) (by omega) ?_; conv => whnf) | (refine WrapK.u64 (by omega) (by omega) ?_; conv => whnf) | (refine WrapK.u32 (by omega) (by omega) ?_; conv => whnf) | (refine WrapK.u8 (by omega) (by omega) ?_; conv => whnf))
    rw [ht]
    conv => whnf
    repeat (first | (refine cnd_intro (by first | (simp; done) | (simp; omega) | omega | (simp only [Bool.and_eq_true, decide_eq_true_eq]; omega)) ?_; conv => whnf) | (refine Hp.ld H 0 rfl rfl ?_; conv => whnf) | (refine Hp.ld H 1 rfl rfl ?_; conv => whnf) | (refine Hp.ld H 2 rfl rfl ?_; conv => whnf) | (refine Hp.ld H 3 rfl rfl ?_; conv => whnf) | (refine Hp.ld H 4 rfl rfl ?_; conv => whnf) | (refine Hp.ld H 5 rfl rfl ?_; conv => whnf) | (refine Hp.st H 0 rfl rfl rfl rfl rfl ?_; intro h H; conv => whnf) | (refine Hp.st H 1 rfl rfl rfl rfl rfl ?_; intro h H; conv => whnf) | (refine Hp.st H 2 rfl rfl rfl rfl rfl ?_; intro h H; conv => whnf) | (refine Hp.st H 3 rfl rfl rfl rfl rfl ?_; intro h H; conv => whnf) | (refine Hp.st H 4 rfl rfl rfl rfl rfl ?_; intro h H; conv => whnf) | (refine Hp.st H 5 rfl rfl rfl rfl rfl ?_; intro h H; conv => whnf) | (intro b h N; replace H := Hp.new H N; clear N; conv => whnf) | (refine Drawn.mk (by kernel_rfl) ?_; conv => whnf) | (refine FillK.row rfl ?_; conv => whnf) | (refine FillK.lit rfl ?_; conv => whnf) | (refine WrapK.i64 (by omega) (by omega) ?_; conv => whnf) | (refine WrapK.u64 (by omega) (by omega) ?_; conv => whnf) | (refine WrapK.u32 (by omega) (by omega) ?_; conv => whnf) | (refine WrapK.u8 (by omega) (by omega) ?_; conv => whnf))
    rw [ht]
    conv => whnf
    repeat (first | (refine cnd_intro (by first | (simp; done) | (simp; omega) | omega | (simp only [Bool.and_eq_true, decide_eq_true_eq]; omega)) ?_; conv => whnf) | (refine Hp.ld H 0 rfl rfl ?_; conv => whnf) | (refine Hp.ld H 1 rfl rfl ?_; conv => whnf) | (refine Hp.ld H 2 rfl rfl ?_; conv => whnf) | (refine Hp.ld H 3 rfl rfl ?_; conv => whnf) | (refine Hp.ld H 4 rfl rfl ?_; conv => whnf) | (refine Hp.ld H 5 rfl rfl ?_; conv => whnf) | (refine Hp.st H 0 rfl rfl rfl rfl rfl ?_; intro h H; conv => whnf) | (refine Hp.st H 1 rfl rfl rfl rfl rfl ?_; intro h H; conv => whnf) | (refine Hp.st H 2 rfl rfl rfl rfl rfl ?_; intro h H; conv => whnf) | (refine Hp.st H 3 rfl rfl rfl rfl rfl ?_; intro h H; conv => whnf) | (refine Hp.st H 4 rfl rfl rfl rfl rfl ?_; intro h H; conv => whnf) | (refine Hp.st H 5 rfl rfl rfl rfl rfl ?_; intro h H; conv => whnf) | (intro b h N; replace H := Hp.new H N; clear N; conv => whnf) | (refine Drawn.mk (by kernel_rfl) ?_; conv => whnf) | (refine FillK.row rfl ?_; conv => whnf) | (refine FillK.lit rfl ?_; conv => whnf) | (refine WrapK.i64 (by omega) (by omega) ?_; conv => whnf) | (refine WrapK.u64 (by omega) (by omega) ?_; conv => whnf) | (refine WrapK.u32 (by omega) (by omega) ?_; conv => whnf) | (refine WrapK.u8 (by omega) (by omega) ?_; conv => whnf) | (refine iteT (by omega) ?_; conv => whnf) | (refine iteF (by omega) ?_; conv => whnf) | (refine iteET (by omega) ?_; conv => whnf) | (refine iteEF (by omega) ?_; conv => whnf) | (refine iteNT (by omega) ?_; conv => whnf) | (refine iteNF (by omega) ?_; conv => whnf))
    have hz := H.bytes 0 (L := beBytes t 2) (n := 2) (c := 2) rfl (by
      rw [hb2]
      show [Value.int .u8 ((t : Int).tdiv 256), Value.int .u8 ((t : Int).tmod 256)] = [byteV (UInt8.ofNat (t / 256)), byteV (UInt8.ofNat (t % 256))]
      rw [w3, w4, byteV_ofNat (by omega), byteV_ofNat (by omega)]) (by rw [hbl]) (Nat.le_refl _)
    refine Hp.appendB EW_ok (L := X) H 1 rfl hz rfl rfl rfl (by rw [hbl]; omega) ?_
    clear H hz
    intro s6 h6 H
    replace H := H.drop 0
    rw [hX] at H
    have hfl : F.front.length ≤ 18 := by rw [front_length]; split <;> omega
    conv => whnf
    repeat (first | (refine cnd_intro (by first | (simp; done) | (simp; omega) | omega | (simp only [Bool.and_eq_true, decide_eq_true_eq]; omega)) ?_; conv => whnf) | (refine Hp.ld H 0 rfl rfl ?_; conv => whnf) | (refine Hp.ld H 1 rfl rfl ?_; conv => whnf) | (refine Hp.ld H 2 rfl rfl ?_; conv => whnf) | (refine Hp.ld H 3 rfl rfl ?_; conv => whnf) | (refine Hp.ld H 4 rfl rfl ?_; conv => whnf) | (refine Hp.ld H 5 rfl rfl ?_; conv => whnf) | (refine Hp.st H 0 rfl rfl rfl rfl rfl ?_; intro h H; conv => whnf) | (refine Hp.st H 1 rfl rfl rfl rfl rfl ?_; intro h H; conv => whnf) | (refine Hp.st H 2 rfl rfl rfl rfl rfl ?_; intro h H; conv => whnf) | (refine Hp.st H 3 rfl rfl rfl rfl rfl ?_; intro h H; conv => whnf) | (refine Hp.st H 4 rfl rfl rfl rfl rfl ?_; intro h H; conv => whnf) | (refine Hp.st H 5 rfl rfl rfl rfl rfl ?_; intro h H; conv => whnf) | (intro b h N; replace H := Hp.new H N; clear N; conv => whnf) | (refine Drawn.mk (by kernel_rfl) ?_; conv => whnf) | (refine FillK.row rfl ?_; conv => whnf) | (refine FillK.lit rfl ?_; conv => whnf) | (refine WrapK.i64 (by omega) (by omega) ?_; conv => whnf) | (refine WrapK.u64 (by omega) (by omega) ?_; conv => whnf) | (refine WrapK.u32 (by omega) (by omega) ?_; conv => whnf) | (refine WrapK.u8 (by omega) (by omega) ?_; conv => whnf) | (refine iteT (by omega) ?_; conv => whnf) | (refine iteF (by omega) ?_; conv => whnf) | (refine iteET (by omega) ?_; conv => whnf) | (refine iteEF (by omega) ?_; conv => whnf) | (refine iteNT (by omega) ?_; conv => whnf) | (refine iteNF (by omega) ?_; conv => whnf))
    refine Hp.appendB EW_ok (L := F.front) H 0 rfl (hv.keep H.keep) rfl rfl rfl (by omega) ?_
    clear H
    intro s7 h7 H
    conv => whnf
    repeat (first | (refine cnd_intro (by first | (simp; done) | (simp; omega) | omega | (simp only [Bool.and_eq_true, decide_eq_true_eq]; omega)) ?_; conv => whnf) | (refine Hp.ld H 0 rfl rfl ?_; conv => whnf) | (refine Hp.ld H 1 rfl rfl ?_; conv => whnf) | (refine Hp.ld H 2 rfl rfl ?_; conv => whnf) | (refine Hp.ld H 3 rfl rfl ?_; conv => whnf) | (refine Hp.ld H 4 rfl rfl ?_; conv => whnf) | (refine Hp.ld H 5 rfl rfl ?_; conv => whnf) | (refine Hp.st H 0 rfl rfl rfl rfl rfl ?_; intro h H; conv => whnf) | (refine Hp.st H 1 rfl rfl rfl rfl rfl ?_; intro h H; conv => whnf) | (refine Hp.st H 2 rfl rfl rfl rfl rfl ?_; intro h H; conv => whnf) | (refine Hp.st H 3 rfl rfl rfl rfl rfl ?_; intro h H; conv => whnf) | (refine Hp.st H 4 rfl rfl rfl rfl rfl ?_; intro h H; conv => whnf) | (refine Hp.st H 5 rfl rfl rfl rfl rfl ?_; intro h H; conv => whnf) | (intro b h N; replace H := Hp.new H N; clear N; conv => whnf) | (refine Drawn.mk (by kernel_rfl) ?_; conv => whnf) | (refine FillK.row rfl ?_; conv => whnf) | (refine FillK.lit rfl ?_; conv => whnf) | (refine WrapK.i64 (by omega) (by omega) ?_; conv => whnf) | (refine WrapK.u64 (by omega) (by omega) ?_; conv => whnf) | (refine WrapK.u32 (by omega) (by omega) ?_; conv => whnf) | (refine WrapK.u8 (by omega) (by omega) ?_; conv => whnf) | (refine iteT (by omega) ?_; conv => whnf) | (refine iteF (by omega) ?_; conv => whnf) | (refine iteET (by omega) ?_; conv => whnf) | (refine iteEF (by omega) ?_; conv => whnf) | (refine iteNT (by omega) ?_; conv => whnf) | (refine iteNF (by omega) ?_; conv => whnf))
    have hFD : (F.front ++ D).length ≤ 1600 := by rw [List.length_append]; omega
    have hbd : F.build D = sealL (padL (F.front ++ D)) := rfl
    rw [hbd]
    generalize F.front ++ D = Z at *
    refine ⟨Nat × Value, [], fun j => [(5, j.2)], fun j h' => j.1 ≤ 60 - Z.length ∧ Hp h0 h' [Res.own j.2 5 1 (Z ++ List.replicate j.1 0).length ((Z ++ List.replicate j.1 (0 : UInt8)).map byteV)], fun j => 60 - Z.length - j.1, ?_⟩
    conv => whnf
    refine ⟨⟨(0, s7), ⟨rfl, trivial⟩, by show 0 ≤ 60 - Z.length; omega, by show Hp h0 h7 [Res.own s7 _ 1 (Z ++ List.replicate 0 0).length ((Z ++ List.replicate 0 0).map byteV)]; rw [List.replicate_zero, List.append_nil]; exact H.drop 1⟩, ?_⟩
    clear H
    rintro ⟨j, s⟩ h3 ⟨jA, H⟩
    dsimp only at jA H ⊢
    obtain ⟨sA, sc, rfl, _, _, _⟩ := (H.bytesOwn 0 rfl).out
    have hlen : (Z ++ List.replicate j (0 : UInt8)).length = Z.length + j := by simp
    rw [hlen] at H
    by_cases cj : Z.length + j < 60
    · conv => whnf
      rw [hlen]
      conv => whnf
      repeat (first | (refine cnd_intro (by first | (simp; done) | (simp; omega) | omega | (simp only [Bool.and_eq_true, decide_eq_true_eq]; omega)) ?_; conv => whnf) | (refine Hp.ld H 0 rfl rfl ?_; conv => whnf) | (refine Hp.ld H 1 rfl rfl ?_; conv => whnf) | (refine Hp.ld H 2 rfl rfl ?_; conv => whnf) | (refine Hp.ld H 3 rfl rfl ?_; conv => whnf) | (refine Hp.ld H 4 rfl rfl ?_; conv => whnf) | (refine Hp.ld H 5 rfl rfl ?_; conv => whnf) | (refine Hp.st H 0 rfl rfl rfl rfl rfl ?_; intro h H; conv => whnf) | (refine Hp.st H 1 rfl rfl rfl rfl rfl ?_; intro h H; conv => whnf) | (refine Hp.st H 2 rfl rfl rfl rfl rfl ?_; intro h H; conv => whnf) | (refine Hp.st H 3 rfl rfl rfl rfl rfl ?_; intro h H; conv => whnf) | (refine Hp.st H 4 rfl rfl rfl rfl rfl ?_; intro h H; conv => whnf) | (refine Hp.st H 5 rfl rfl rfl rfl rfl ?_; intro h H; conv => whnf) | (intro b h N; replace H := Hp.new H N; clear N; conv => whnf) | (refine Drawn.mk (by kernel_rfl) ?_; conv => whnf) | (refine FillK.row rfl ?_; conv => whnf) | (refine FillK.lit rfl ?_; conv => whnf) | (refine WrapK.i64 (by omega) (by omega) ?_; conv => whnf) | (refine WrapK.u64 (by omega) (by omega) ?_; conv => whnf) | (refine WrapK.u32 (by omega) (by omega) ?_; conv => whnf) | (refine WrapK.u8 (by omega) (by omega) ?_; conv => whnf) | (refine iteT (by omega) ?_; conv => whnf) | (refine iteF (by omega) ?_; conv => whnf) | (refine iteET (by omega) ?_; conv => whnf) | (refine iteEF (by omega) ?_; conv => whnf) | (refine iteNT (by omega) ?_; conv => whnf) | (refine iteNF (by omega) ?_; conv => whnf))
      have hz := H.bytes 0 (L := [0]) (n := 1) (c := 1) rfl rfl rfl (Nat.le_refl _)
      refine Hp.appendB EW_ok H 1 rfl hz rfl rfl rfl (by simp; omega) ?_
      clear H hz
      intro s4 h4 H
      replace H := H.drop 0
      have e1 : Z ++ List.replicate j 0 ++ [0] = Z ++ List.replicate (j + 1) (0 : UInt8) := by rw [List.replicate_succ', List.append_assoc]
      rw [e1] at H
      conv => whnf
      repeat (first | (refine cnd_intro (by first | (simp; done) | (simp; omega) | omega | (simp only [Bool.and_eq_true, decide_eq_true_eq]; omega)) ?_; conv => whnf) | (refine Hp.ld H 0 rfl rfl ?_; conv => whnf) | (refine Hp.ld H 1 rfl rfl ?_; conv => whnf) | (refine Hp.ld H 2 rfl rfl ?_; conv => whnf) | (refine Hp.ld H 3 rfl rfl ?_; conv => whnf) | (refine Hp.ld H 4 rfl rfl ?_; conv => whnf) | (refine Hp.ld H 5 rfl rfl ?_; conv => whnf) | (refine Hp.st H 0 rfl rfl rfl rfl rfl ?_; intro h H; conv => whnf) | (refine Hp.st H 1 rfl rfl rfl rfl rfl ?_; intro h H; conv => whnf) | (refine Hp.st H 2 rfl rfl rfl rfl rfl ?_; intro h H; conv => whnf) | (refine Hp.st H 3 rfl rfl rfl rfl rfl ?_; intro h H; conv => whnf) | (refine Hp.st H 4 rfl rfl rfl rfl rfl ?_; intro h H; conv => whnf) | (refine Hp.st H 5 rfl rfl rfl rfl rfl ?_; intro h H; conv => whnf) | (intro b h N; replace H := Hp.new H N; clear N; conv => whnf) | (refine Drawn.mk (by kernel_rfl) ?_; conv => whnf) | (refine FillK.row rfl ?_; conv => whnf) | (refine FillK.lit rfl ?_; conv => whnf) | (refine WrapK.i64 (by omega) (by omega) ?_; conv => whnf) | (refine WrapK.u64 (by omega) (by omega) ?_; conv => whnf) | (refine WrapK.u32 (by omega) (by omega) ?_; conv => whnf) | (refine WrapK.u8 (by omega) (by omega) ?_; conv => whnf) | (refine iteT (by omega) ?_; conv => whnf) | (refine iteF (by omega) ?_; conv => whnf) | (refine iteET (by omega) ?_; conv => whnf) | (refine iteEF (by omega) ?_; conv => whnf) | (refine iteNT (by omega) ?_; conv => whnf) | (refine iteNF (by omega) ?_; conv => whnf))
      exact ⟨(j + 1, s4), ⟨rfl, trivial⟩, (by repeat (first | exact trivial | refine ⟨rfl, ?_⟩)), ⟨by show j + 1 ≤ 60 - Z.length; omega, H⟩, by show 60 - Z.length - (j + 1) < 60 - Z.length - j; omega⟩
    · conv => whnf
      rw [hlen]
      conv => whnf
      repeat (first | (refine cnd_intro (by first | (simp; done) | (simp; omega) | omega | (simp only [Bool.and_eq_true, decide_eq_true_eq]; omega)) ?_; conv => whnf) | (refine Hp.ld H 0 rfl rfl ?_; conv => whnf) | (refine Hp.ld H 1 rfl rfl ?_; conv => whnf) | (refine Hp.ld H 2 rfl rfl ?_; conv => whnf) | (refine Hp.ld H 3 rfl rfl ?_; conv => whnf) | (refine Hp.ld H 4 rfl rfl ?_; conv => whnf) | (refine Hp.ld H 5 rfl rfl ?_; conv => whnf) | (refine Hp.st H 0 rfl rfl rfl rfl rfl ?_; intro h H; conv => whnf) | (refine Hp.st H 1 rfl rfl rfl rfl rfl ?_; intro h H; conv => whnf) | (refine Hp.st H 2 rfl rfl rfl rfl rfl ?_; intro h H; conv => whnf) | (refine Hp.st H 3 rfl rfl rfl rfl rfl ?_; intro h H; conv => whnf) | (refine Hp.st H 4 rfl rfl rfl rfl rfl ?_; intro h H; conv => whnf) | (refine Hp.st H 5 rfl rfl rfl rfl rfl ?_; intro h H; conv => whnf) | (intro b h N; replace H := Hp.new H N; clear N; conv => whnf) | (refine Drawn.mk (by kernel_rfl) ?_; conv => whnf) | (refine FillK.row rfl ?_; conv => whnf) | (refine FillK.lit rfl ?_; conv => whnf) | (refine WrapK.i64 (by omega) (by omega) ?_; conv => whnf) | (refine WrapK.u64 (by omega) (by omega) ?_; conv => whnf) | (refine WrapK.u32 (by omega) (by omega) ?_; conv => whnf) | (refine WrapK.u8 (by omega) (by omega) ?_; conv => whnf) | (refine iteT (by omega) ?_; conv => whnf) | (refine iteF (by omega) ?_; conv => whnf) | (refine iteET (by omega) ?_; conv => whnf) | (refine iteEF (by omega) ?_; conv => whnf) | (refine iteNT (by omega) ?_; conv => whnf) | (refine iteNF (by omega) ?_; conv => whnf))
      have ej : j = 60 - Z.length := by omega
      subst ej
      have hPl : (padL Z).length ≤ 2000 := by unfold padL; rw [hlen]; omega
      replace H : Hp h0 h3 [Res.own (.slice sA (Z.length + (60 - Z.length)) sc) 5 1 (Z.length + (60 - Z.length)) ((padL Z).map byteV)] := H
      refine CallK.mono (refSum_call _ _ (padL Z) (H.bytesOwn 0 rfl) (by omega)) ?_
      rintro _ h8 ⟨k8, rfl⟩
      replace H := H.and k8
      have hpz : (padL Z).length = Z.length + (60 - Z.length) := hlen
      generalize padL Z = P at *
      have hle : ∀ i, i < 4 → (le4 (crcSum P)).take (i + 1) = (le4 (crcSum P)).take i ++ [UInt8.ofNat ((crcSum P).toNat / 256 ^ i % 256)] := fun i hi => by rw [List.take_add_one, le4_at _ hi]; rfl
      have hn32 := (crcSum P).isLt
      have hseal : sealL P = P ++ (le4 (crcSum P)).take 4 := rfl
      rw [hseal]
      have hll : ∀ i, i ≤ 4 → ((le4 (crcSum P)).take i).length = i := fun i hi => by rw [List.length_take]; show min i 4 = i; omega
      generalize le4 (crcSum P) = Q at *
      generalize (crcSum P).toNat = n0 at *
      conv => whnf
      repeat (first | (refine cnd_intro (by first | (simp; done) | (simp; omega) | omega | (simp only [Bool.and_eq_true, decide_eq_true_eq]; omega)) ?_; conv => whnf) | (refine Hp.ld H 0 rfl rfl ?_; conv => whnf) | (refine Hp.ld H 1 rfl rfl ?_; conv => whnf) | (refine Hp.ld H 2 rfl rfl ?_; conv => whnf) | (refine Hp.ld H 3 rfl rfl ?_; conv => whnf) | (refine Hp.ld H 4 rfl rfl ?_; conv => whnf) | (refine Hp.ld H 5 rfl rfl ?_; conv => whnf) | (refine Hp.st H 0 rfl rfl rfl rfl rfl ?_; intro h H; conv => whnf) | (refine Hp.st H 1 rfl rfl rfl rfl rfl ?_; intro h H; conv => whnf) | (refine Hp.st H 2 rfl rfl rfl rfl rfl ?_; intro h H; conv => whnf) | (refine Hp.st H 3 rfl rfl rfl rfl rfl ?_; intro h H; conv => whnf) | (refine Hp.st H 4 rfl rfl rfl rfl rfl ?_; intro h H; conv => whnf) | (refine Hp.st H 5 rfl rfl rfl rfl rfl ?_; intro h H; conv => whnf) | (intro b h N; replace H := Hp.new H N; clear N; conv => whnf) | (refine Drawn.mk (by kernel_rfl) ?_; conv => whnf) | (refine FillK.row rfl ?_; conv => whnf) | (refine FillK.lit rfl ?_; conv => whnf) | (refine WrapK.i64 (by omega) (by omega) ?_; conv => whnf) | (refine WrapK.u64 (by omega) (by omega) ?_; conv => whnf) | (refine WrapK.u32 (by omega) (by omega) ?_; conv => whnf) | (refine WrapK.u8 (by omega) (by omega) ?_; conv => whnf) | (refine iteT (by omega) ?_; conv => whnf) | (refine iteF (by omega) ?_; conv => whnf) | (refine iteET (by omega) ?_; conv => whnf) | (refine iteEF (by omega) ?_; conv => whnf) | (refine iteNT (by omega) ?_; conv => whnf) | (refine iteNF (by omega) ?_; conv => whnf))
      rw [← hpz] at H
      refine ⟨Nat × Value, [], fun i => [(8, .int .i64 (i.1 : Nat)), (7, .int .u32 ((n0 / 256 ^ i.1 : Nat) : Int)), (5, i.2)], fun i h' => i.1 ≤ 4 ∧ Hp h0 h' [Res.own i.2 5 1 (P ++ Q.take i.1).length ((P ++ Q.take i.1).map byteV)], fun i => 4 - i.1, ?_⟩
      conv => whnf
      refine ⟨⟨(0, .slice sA P.length sc), ⟨rfl, by show Value.int .u32 _ = _; simp, by rw [hpz]; rfl, trivial⟩, by show 0 ≤ 4; omega, by show Hp h0 h8 [Res.own _ _ 1 (P ++ Q.take 0).length ((P ++ Q.take 0).map byteV)]; rw [List.take_zero, List.append_nil]; exact H⟩, ?_⟩
      clear H
      rintro ⟨i, s⟩ h9 ⟨iA, H⟩
      dsimp only at iA H ⊢
      have hll2 := hll i iA
      by_cases ci : i = 4
      · subst ci
        conv => whnf
        repeat (first | (refine cnd_intro (by first | (simp; done) | (simp; omega) | omega | (simp only [Bool.and_eq_true, decide_eq_true_eq]; omega)) ?_; conv => whnf) | (refine Hp.ld H 0 rfl rfl ?_; conv => whnf) | (refine Hp.ld H 1 rfl rfl ?_; conv => whnf) | (refine Hp.ld H 2 rfl rfl ?_; conv => whnf) | (refine Hp.ld H 3 rfl rfl ?_; conv => whnf) | (refine Hp.ld H 4 rfl rfl ?_; conv => whnf) | (refine Hp.ld H 5 rfl rfl ?_; conv => whnf) | (refine Hp.st H 0 rfl rfl rfl rfl rfl ?_; intro h H; conv => whnf) | (refine Hp.st H 1 rfl rfl rfl rfl rfl ?_; intro h H; conv => whnf) | (refine Hp.st H 2 rfl rfl rfl rfl rfl ?_; intro h H; conv => whnf) | (refine Hp.st H 3 rfl rfl rfl rfl rfl ?_; intro h H; conv => whnf) | (refine Hp.st H 4 rfl rfl rfl rfl rfl ?_; intro h H; conv => whnf) | (refine Hp.st H 5 rfl rfl rfl rfl rfl ?_; intro h H; conv => whnf) | (intro b h N; replace H := Hp.new H N; clear N; conv => whnf) | (refine Drawn.mk (by kernel_rfl) ?_; conv => whnf) | (refine FillK.row rfl ?_; conv => whnf) | (refine FillK.lit rfl ?_; conv => whnf) | (refine WrapK.i64 (by omega) (by omega) ?_; conv => whnf) | (refine WrapK.u64 (by omega) (by omega) ?_; conv => whnf) | (refine WrapK.u32 (by omega) (by omega) ?_; conv => whnf) | (refine WrapK.u8 (by omega) (by omega) ?_; conv => whnf) | (refine iteT (by omega) ?_; conv => whnf) | (refine iteF (by omega) ?_; conv => whnf) | (refine iteET (by omega) ?_; conv => whnf) | (refine iteEF (by omega) ?_; conv => whnf) | (refine iteNT (by omega) ?_; conv => whnf) | (refine iteNF (by omega) ?_; conv => whnf))
        exact ⟨H.keep, H.own_out 0 rfl⟩
      have hle2 := hle i (by omega)
      have hd : n0 / 256 ^ (i + 1) = n0 / 256 ^ i / 256 := by rw [Nat.pow_succ, Nat.div_div_eq_div_mul]
      have hqn : n0 / 256 ^ i ≤ n0 := Nat.div_le_self _ _
      conv => whnf
      generalize n0 / 256 ^ i = q at *
      have w5 : ((q : Nat) : Int).tdiv 256 = ((q / 256 : Nat) : Int) := (Int.ofNat_tdiv _ 256).symm
      have w6 : ((q : Nat) : Int).tmod 256 = ((q % 256 : Nat) : Int) := (Int.ofNat_tmod _ 256).symm
      conv => whnf
      repeat (first | (refine cnd_intro (by first | (simp; done) | (simp; omega) | omega | (simp only [Bool.and_eq_true, decide_eq_true_eq]; omega)) ?_; conv => whnf) | (refine Hp.ld H 0 rfl rfl ?_; conv => whnf) | (refine Hp.ld H 1 rfl rfl ?_; conv => whnf) | (refine Hp.ld H 2 rfl rfl ?_; conv => whnf) | (refine Hp.ld H 3 rfl rfl ?_; conv => whnf) | (refine Hp.ld H 4 rfl rfl ?_; conv => whnf) | (refine Hp.ld H 5 rfl rfl ?_; conv => whnf) | (refine Hp.st H 0 rfl rfl rfl rfl rfl ?_; intro h H; conv => whnf) | (refine Hp.st H 1 rfl rfl rfl rfl rfl ?_; intro h H; conv => whnf) | (refine Hp.st H 2 rfl rfl rfl rfl rfl ?_; intro h H; conv => whnf) | (refine Hp.st H 3 rfl rfl rfl rfl rfl ?_; intro h H; conv => whnf) | (refine Hp.st H 4 rfl rfl rfl rfl rfl ?_; intro h H; conv => whnf) | (refine Hp.st H 5 rfl rfl rfl rfl rfl ?_; intro h H; conv => whnf) | (intro b h N; replace H := Hp.new H N; clear N; conv => whnf) | (refine Drawn.mk (by kernel_rfl) ?_; conv => whnf) | (refine FillK.row rfl ?_; conv => whnf) | (refine FillK.lit rfl ?_; conv => whnf) | (refine WrapK.i64 (by omega) (by omega) ?_; conv => whnf) | (refine WrapK.u64 (by omega) (by omega) ?_; conv => whnf) | (refine WrapK.u32 (by omega) (by omega) ?_; conv => whnf) | (refine WrapK.u8 (by omega) (by omega) ?_; conv => whnf) | (refine iteT (by omega) ?_; conv => whnf) | (refine iteF (by omega) ?_; conv => whnf) | (refine iteET (by omega) ?_; conv => whnf) | (refine iteEF (by omega) ?_; conv => whnf) | (refine iteNT (by omega) ?_; conv => whnf) | (refine iteNF (by omega) ?_; conv => whnf))
      have hz := H.bytes 0 (L := [UInt8.ofNat (q % 256)]) (n := 1) (c := 1) rfl (by
        show [Value.int .u8 ((q : Int).tmod 256)] = [byteV (UInt8.ofNat (q % 256))]
        rw [w6, byteV_ofNat (by omega)]) rfl (Nat.le_refl _)
      refine Hp.appendB EW_ok H 1 rfl hz rfl rfl rfl (by rw [List.length_append, hll2]; show _ + 1 ≤ _; omega) ?_
      clear H hz
      intro s10 h10 H
      replace H := H.drop 0
      rw [List.append_assoc, ← hle2] at H
      conv => whnf
      repeat (first | (refine cnd_intro (by first | (simp; done) | (simp; omega) | omega | (simp only [Bool.and_eq_true, decide_eq_true_eq]; omega)) ?_; conv => whnf) | (refine Hp.ld H 0 rfl rfl ?_; conv => whnf) | (refine Hp.ld H 1 rfl rfl ?_; conv => whnf) | (refine Hp.ld H 2 rfl rfl ?_; conv => whnf) | (refine Hp.ld H 3 rfl rfl ?_; conv => whnf) | (refine Hp.ld H 4 rfl rfl ?_; conv => whnf) | (refine Hp.ld H 5 rfl rfl ?_; conv => whnf) | (refine Hp.st H 0 rfl rfl rfl rfl rfl ?_; intro h H; conv => whnf) | (refine Hp.st H 1 rfl rfl rfl rfl rfl ?_; intro h H; conv => whnf) | (refine Hp.st H 2 rfl rfl rfl rfl rfl ?_; intro h H; conv => whnf) | (refine Hp.st H 3 rfl rfl rfl rfl rfl ?_; intro h H; conv => whnf) | (refine Hp.st H 4 rfl rfl rfl rfl rfl ?_; intro h H; conv => whnf) | (refine Hp.st H 5 rfl rfl rfl rfl rfl ?_; intro h H; conv => whnf) | (intro b h N; replace H := Hp.new H N; clear N; conv => whnf) | (refine Drawn.mk (by kernel_rfl) ?_; conv => whnf) | (refine FillK.row rfl ?_; conv => whnf) | (refine FillK.lit rfl ?_; conv => whnf) | (refine WrapK.i64 (by omega) (by omega) ?_; conv => whnf) | (refine WrapK.u64 (by omega) (by omega) ?_; conv => whnf) | (refine WrapK.u32 (by omega) (by omega) ?_; conv => whnf) | (refine WrapK.u8 (by omega) (by omega) ?_; conv => whnf) | (refine iteT (by omega) ?_; conv => whnf) | (refine iteF (by omega) ?_; conv => whnf) | (refine iteET (by omega) ?_; conv => whnf) | (refine iteEF (by omega) ?_; conv => whnf) | (refine iteNT (by omega) ?_; conv => whnf) | (refine iteNF (by omega) ?_; conv => whnf))
      refine ⟨(i + 1, s10), ⟨(by first | rfl | (show Value.int .i64 _ = _; congr 1; omega) | (show Value.int .i64 _ = _; rw [wrap64_id (by omega) (by omega)]; first | rfl | (congr 1; omega))), ?_, rfl, trivial⟩, (by repeat (first | exact trivial | refine ⟨rfl, ?_⟩)), ⟨by show i + 1 ≤ 4; omega, H⟩, by show 4 - (i + 1) < 4 - i; omega⟩
      show Value.int .u32 _ = _
      rw [hd, w5]

end Go.Proofs.Ytlgekbknebbnlaa
