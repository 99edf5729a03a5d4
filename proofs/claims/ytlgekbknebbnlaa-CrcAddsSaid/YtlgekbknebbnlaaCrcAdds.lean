import Derived.Test.YtlgekbknebbnlaaCrcMath
import Derived.Test.YtlgekbknebbnlaaBytes
namespace Go.Proofs.Ytlgekbknebbnlaa
open Go.Vc
set_option maxRecDepth 10000

theorem xor3_length : ∀ (A B C : List UInt8), B.length = A.length → C.length = A.length → (xor3 A B C).length = A.length
  | [], _, _, _, _ => by simp [xor3]
  | _ :: _, [], _, h, _ => by simp at h
  | _ :: _, _ :: _, [], _, h => by simp at h
  | _ :: A, _ :: B, _ :: C, h1, h2 => by
    show (_ :: xor3 A B C).length = _
    rw [List.length_cons, xor3_length A B C (by simpa using h1) (by simpa using h2)]; rfl

theorem xor3_at : ∀ {A B C : List UInt8} {i : Nat} {a b c : UInt8}, A[i]? = some a → B[i]? = some b → C[i]? = some c → (xor3 A B C)[i]? = some (a ^^^ b ^^^ c)
  | [], _, _, _, _, _, _, h, _, _ => by simp at h
  | _ :: _, [], _, _, _, _, _, _, h, _ => by simp at h
  | _ :: _, _ :: _, [], _, _, _, _, _, _, h => by simp at h
  | _ :: _, _ :: _, _ :: _, 0, _, _, _, h1, h2, h3 => by
    simp only [List.getElem?_cons_zero, Option.some.injEq] at h1 h2 h3
    subst h1 h2 h3; rfl
  | _ :: A, _ :: B, _ :: C, i + 1, _, _, _, h1, h2, h3 => xor3_at (A := A) (B := B) (C := C) (i := i) (by simpa using h1) (by simpa using h2) (by simpa using h3)

theorem law_CrcAdds (v0 v1 v2 : Value) (h : Heap) (a0 : Arg EE h 22 v0) (a1 : Arg EE h 22 v1) (a2 : Arg EE h 22 v2) :
    CallK Try.prog 4 #[v0, v1, v2] h fun v h' => v = .bool true ∧ Keep (fun _ => False) h h' := by
  obtain ⟨A, hA, hA1⟩ := arg_bytes a0
  obtain ⟨B, hB, hB1⟩ := arg_bytes a1
  obtain ⟨C, hC, hC1⟩ := arg_bytes a2
  obtain ⟨pa, ca, rfl, _, _, _⟩ := hA.out
  obtain ⟨pb, cb, rfl, _, _, _⟩ := hB.out
  obtain ⟨pc, cc, rfl, _, _, _⟩ := hC.out
  refine CallK.of_vc EE_ok [0, 1, 2, 6, 7, 8, 10, 27, 32, 33, 34] Try.func4 rfl (Nat.le_of_ble_eq_true rfl) ?_
  have H := Hp.start h
  conv => whnf
  refine CallK.mono (sums_call h) ?_
  rintro _ h1 ⟨rfl, k1⟩
  replace H := H.and k1
  conv => whnf
  refine iteD (fun t => ?_) (fun t => ?_)
  · conv => whnf
    repeat (first | (refine cnd_intro (by first | (simp; done) | (simp; omega) | omega | (simp only [Bool.and_eq_true, decide_eq_true_eq]; omega)) ?_; conv => whnf) | (refine Hp.ld H 0 rfl rfl ?_; conv => whnf) | (refine Hp.ld H 1 rfl rfl ?_; conv => whnf) | (refine Hp.ld H 2 rfl rfl ?_; conv => whnf) | (refine Hp.ld H 3 rfl rfl ?_; conv => whnf) | (refine Hp.ld H 4 rfl rfl ?_; conv => whnf) | (refine Hp.ld H 5 rfl rfl ?_; conv => whnf) | (refine Hp.st H 0 rfl rfl rfl rfl rfl ?_; intro h H; conv => whnf) | (refine Hp.st H 1 rfl rfl rfl rfl rfl ?_; intro h H; conv => whnf) | (refine Hp.st H 2 rfl rfl rfl rfl rfl ?_; intro h H; conv => whnf) | (refine Hp.st H 3 rfl rfl rfl rfl rfl ?_; intro h H; conv => whnf) | (refine Hp.st H 4 rfl rfl rfl rfl rfl ?_; intro h H; conv => whnf) | (refine Hp.st H 5 rfl rfl rfl rfl rfl ?_; intro h H; conv => whnf) | (intro b h N; replace H := Hp.new H N; clear N; conv => whnf) | (refine Drawn.mk (by kernel_rfl) ?_; conv => whnf) | (refine FillK.row rfl ?_; conv => whnf) | (refine FillK.lit rfl ?_; conv => whnf) | (refine iteT (by omega) ?_; conv => whnf) | (refine iteF (by omega) ?_; conv => whnf) | (refine iteET (by omega) ?_; conv => whnf) | (refine iteEF (by omega) ?_; conv => whnf) | (refine iteNT (by omega) ?_; conv => whnf) | (refine iteNF (by omega) ?_; conv => whnf))
    exact ⟨rfl, H.keep⟩
  · conv => whnf
    refine iteN (fun u => ?_) (fun u => ?_)
    · conv => whnf
      repeat (first | (refine cnd_intro (by first | (simp; done) | (simp; omega) | omega | (simp only [Bool.and_eq_true, decide_eq_true_eq]; omega)) ?_; conv => whnf) | (refine Hp.ld H 0 rfl rfl ?_; conv => whnf) | (refine Hp.ld H 1 rfl rfl ?_; conv => whnf) | (refine Hp.ld H 2 rfl rfl ?_; conv => whnf) | (refine Hp.ld H 3 rfl rfl ?_; conv => whnf) | (refine Hp.ld H 4 rfl rfl ?_; conv => whnf) | (refine Hp.ld H 5 rfl rfl ?_; conv => whnf) | (refine Hp.st H 0 rfl rfl rfl rfl rfl ?_; intro h H; conv => whnf) | (refine Hp.st H 1 rfl rfl rfl rfl rfl ?_; intro h H; conv => whnf) | (refine Hp.st H 2 rfl rfl rfl rfl rfl ?_; intro h H; conv => whnf) | (refine Hp.st H 3 rfl rfl rfl rfl rfl ?_; intro h H; conv => whnf) | (refine Hp.st H 4 rfl rfl rfl rfl rfl ?_; intro h H; conv => whnf) | (refine Hp.st H 5 rfl rfl rfl rfl rfl ?_; intro h H; conv => whnf) | (intro b h N; replace H := Hp.new H N; clear N; conv => whnf) | (refine Drawn.mk (by kernel_rfl) ?_; conv => whnf) | (refine FillK.row rfl ?_; conv => whnf) | (refine FillK.lit rfl ?_; conv => whnf) | (refine iteT (by omega) ?_; conv => whnf) | (refine iteF (by omega) ?_; conv => whnf) | (refine iteET (by omega) ?_; conv => whnf) | (refine iteEF (by omega) ?_; conv => whnf) | (refine iteNT (by omega) ?_; conv => whnf) | (refine iteNF (by omega) ?_; conv => whnf))
      exact ⟨rfl, H.keep⟩
    · conv => whnf
      refine iteN (fun z => ?_) (fun z => ?_)
      · conv => whnf
        repeat (first | (refine cnd_intro (by first | (simp; done) | (simp; omega) | omega | (simp only [Bool.and_eq_true, decide_eq_true_eq]; omega)) ?_; conv => whnf) | (refine Hp.ld H 0 rfl rfl ?_; conv => whnf) | (refine Hp.ld H 1 rfl rfl ?_; conv => whnf) | (refine Hp.ld H 2 rfl rfl ?_; conv => whnf) | (refine Hp.ld H 3 rfl rfl ?_; conv => whnf) | (refine Hp.ld H 4 rfl rfl ?_; conv => whnf) | (refine Hp.ld H 5 rfl rfl ?_; conv => whnf) | (refine Hp.st H 0 rfl rfl rfl rfl rfl ?_; intro h H; conv => whnf) | (refine Hp.st H 1 rfl rfl rfl rfl rfl ?_; intro h H; conv => whnf) | (refine Hp.st H 2 rfl rfl rfl rfl rfl ?_; intro h H; conv => whnf) | (refine Hp.st H 3 rfl rfl rfl rfl rfl ?_; intro h H; conv => whnf) | (refine Hp.st H 4 rfl rfl rfl rfl rfl ?_; intro h H; conv => whnf) | (refine Hp.st H 5 rfl rfl rfl rfl rfl ?_; intro h H; conv => whnf) | (intro b h N; replace H := Hp.new H N; clear N; conv => whnf) | (refine Drawn.mk (by kernel_rfl) ?_; conv => whnf) | (refine FillK.row rfl ?_; conv => whnf) | (refine FillK.lit rfl ?_; conv => whnf) | (refine iteT (by omega) ?_; conv => whnf) | (refine iteF (by omega) ?_; conv => whnf) | (refine iteET (by omega) ?_; conv => whnf) | (refine iteEF (by omega) ?_; conv => whnf) | (refine iteNT (by omega) ?_; conv => whnf) | (refine iteNF (by omega) ?_; conv => whnf))
        exact ⟨rfl, H.keep⟩
      · conv => whnf
        repeat (first | (refine cnd_intro (by first | (simp; done) | (simp; omega) | omega | (simp only [Bool.and_eq_true, decide_eq_true_eq]; omega)) ?_; conv => whnf) | (refine Hp.ld H 0 rfl rfl ?_; conv => whnf) | (refine Hp.ld H 1 rfl rfl ?_; conv => whnf) | (refine Hp.ld H 2 rfl rfl ?_; conv => whnf) | (refine Hp.ld H 3 rfl rfl ?_; conv => whnf) | (refine Hp.ld H 4 rfl rfl ?_; conv => whnf) | (refine Hp.ld H 5 rfl rfl ?_; conv => whnf) | (refine Hp.st H 0 rfl rfl rfl rfl rfl ?_; intro h H; conv => whnf) | (refine Hp.st H 1 rfl rfl rfl rfl rfl ?_; intro h H; conv => whnf) | (refine Hp.st H 2 rfl rfl rfl rfl rfl ?_; intro h H; conv => whnf) | (refine Hp.st H 3 rfl rfl rfl rfl rfl ?_; intro h H; conv => whnf) | (refine Hp.st H 4 rfl rfl rfl rfl rfl ?_; intro h H; conv => whnf) | (refine Hp.st H 5 rfl rfl rfl rfl rfl ?_; intro h H; conv => whnf) | (intro b h N; replace H := Hp.new H N; clear N; conv => whnf) | (refine Drawn.mk (by kernel_rfl) ?_; conv => whnf) | (refine FillK.row rfl ?_; conv => whnf) | (refine FillK.lit rfl ?_; conv => whnf) | (refine iteT (by omega) ?_; conv => whnf) | (refine iteF (by omega) ?_; conv => whnf) | (refine iteET (by omega) ?_; conv => whnf) | (refine iteEF (by omega) ?_; conv => whnf) | (refine iteNT (by omega) ?_; conv => whnf) | (refine iteNF (by omega) ?_; conv => whnf))
        refine Hp.make EE_ok (n := A.length) (m := A.length) H rfl rfl rfl rfl rfl rfl rfl rfl (Nat.le_refl _) (by omega) rfl fun b h2 H => ?_
        conv => whnf
        repeat (first | (refine cnd_intro (by first | (simp; done) | (simp; omega) | omega | (simp only [Bool.and_eq_true, decide_eq_true_eq]; omega)) ?_; conv => whnf) | (refine Hp.ld H 0 rfl rfl ?_; conv => whnf) | (refine Hp.ld H 1 rfl rfl ?_; conv => whnf) | (refine Hp.ld H 2 rfl rfl ?_; conv => whnf) | (refine Hp.ld H 3 rfl rfl ?_; conv => whnf) | (refine Hp.ld H 4 rfl rfl ?_; conv => whnf) | (refine Hp.ld H 5 rfl rfl ?_; conv => whnf) | (refine Hp.st H 0 rfl rfl rfl rfl rfl ?_; intro h H; conv => whnf) | (refine Hp.st H 1 rfl rfl rfl rfl rfl ?_; intro h H; conv => whnf) | (refine Hp.st H 2 rfl rfl rfl rfl rfl ?_; intro h H; conv => whnf) | (refine Hp.st H 3 rfl rfl rfl rfl rfl ?_; intro h H; conv => whnf) | (refine Hp.st H 4 rfl rfl rfl rfl rfl ?_; intro h H; conv => whnf) | (refine Hp.st H 5 rfl rfl rfl rfl rfl ?_; intro h H; conv => whnf) | (intro b h N; replace H := Hp.new H N; clear N; conv => whnf) | (refine Drawn.mk (by kernel_rfl) ?_; conv => whnf) | (refine FillK.row rfl ?_; conv => whnf) | (refine FillK.lit rfl ?_; conv => whnf) | (refine iteT (by omega) ?_; conv => whnf) | (refine iteF (by omega) ?_; conv => whnf) | (refine iteET (by omega) ?_; conv => whnf) | (refine iteEF (by omega) ?_; conv => whnf) | (refine iteNT (by omega) ?_; conv => whnf) | (refine iteNF (by omega) ?_; conv => whnf))
        have hX := xor3_length A B C (by omega) (by omega)
        refine ⟨Nat, [0, 1, 2, 6, 7, 10, 27, 32], fun i => [(33, .int .i64 (i : Nat))], fun i h' => i ≤ A.length ∧ Hp h h' [Res.ob b (.cells (((xor3 A B C).take i ++ List.replicate (A.length - i) 0).map byteV).toArray 5 (0, 0))], fun i => A.length - i, ?_⟩
        conv => whnf
        refine ⟨⟨0, ⟨rfl, trivial⟩, by omega, by simpa [byteV] using H⟩, ?_⟩
        clear H
        rintro i h3 ⟨iA, H⟩
        conv => whnf
        refine iteD (fun r => ?_) (fun r => ?_)
        · obtain ⟨ab, ao, rfl⟩ := hA.some (by omega)
          obtain ⟨bb, bo, rfl⟩ := hB.some (by omega)
          obtain ⟨cb, co, rfl⟩ := hC.some (by omega)
          obtain ⟨x, hx⟩ := list_at (L := A) (i := i) (by omega)
          obtain ⟨y, hy⟩ := list_at (L := B) (i := i) (by omega)
          obtain ⟨w, hw⟩ := list_at (L := C) (i := i) (by omega)
          conv => whnf
          repeat (first | (refine cnd_intro (by first | (simp; done) | (simp; omega) | omega | (simp only [Bool.and_eq_true, decide_eq_true_eq]; omega)) ?_; conv => whnf) | (refine Hp.ld H 0 rfl rfl ?_; conv => whnf) | (refine Hp.ld H 1 rfl rfl ?_; conv => whnf) | (refine Hp.ld H 2 rfl rfl ?_; conv => whnf) | (refine Hp.ld H 3 rfl rfl ?_; conv => whnf) | (refine Hp.ld H 4 rfl rfl ?_; conv => whnf) | (refine Hp.ld H 5 rfl rfl ?_; conv => whnf) | (refine Hp.st H 0 rfl rfl rfl rfl rfl ?_; intro h H; conv => whnf) | (refine Hp.st H 1 rfl rfl rfl rfl rfl ?_; intro h H; conv => whnf) | (refine Hp.st H 2 rfl rfl rfl rfl rfl ?_; intro h H; conv => whnf) | (refine Hp.st H 3 rfl rfl rfl rfl rfl ?_; intro h H; conv => whnf) | (refine Hp.st H 4 rfl rfl rfl rfl rfl ?_; intro h H; conv => whnf) | (refine Hp.st H 5 rfl rfl rfl rfl rfl ?_; intro h H; conv => whnf) | (intro b h N; replace H := Hp.new H N; clear N; conv => whnf) | (refine Drawn.mk (by kernel_rfl) ?_; conv => whnf) | (refine FillK.row rfl ?_; conv => whnf) | (refine FillK.lit rfl ?_; conv => whnf) | (refine iteT (by omega) ?_; conv => whnf) | (refine iteF (by omega) ?_; conv => whnf) | (refine iteET (by omega) ?_; conv => whnf) | (refine iteEF (by omega) ?_; conv => whnf) | (refine iteNT (by omega) ?_; conv => whnf) | (refine iteNF (by omega) ?_; conv => whnf))
          refine bytes_ld (hA.keep H.keep) rfl hx (by first | omega | (simp; done) | (simp; omega)) ?_
          conv => whnf
          repeat (first | (refine cnd_intro (by first | (simp; done) | (simp; omega) | omega | (simp only [Bool.and_eq_true, decide_eq_true_eq]; omega)) ?_; conv => whnf) | (refine Hp.ld H 0 rfl rfl ?_; conv => whnf) | (refine Hp.ld H 1 rfl rfl ?_; conv => whnf) | (refine Hp.ld H 2 rfl rfl ?_; conv => whnf) | (refine Hp.ld H 3 rfl rfl ?_; conv => whnf) | (refine Hp.ld H 4 rfl rfl ?_; conv => whnf) | (refine Hp.ld H 5 rfl rfl ?_; conv => whnf) | (refine Hp.st H 0 rfl rfl rfl rfl rfl ?_; intro h H; conv => whnf) | (refine Hp.st H 1 rfl rfl rfl rfl rfl ?_; intro h H; conv => whnf) | (refine Hp.st H 2 rfl rfl rfl rfl rfl ?_; intro h H; conv => whnf) | (refine Hp.st H 3 rfl rfl rfl rfl rfl ?_; intro h H; conv => whnf) | (refine Hp.st H 4 rfl rfl rfl rfl rfl ?_; intro h H; conv => whnf) | (refine Hp.st H 5 rfl rfl rfl rfl rfl ?_; intro h H; conv => whnf) | (intro b h N; replace H := Hp.new H N; clear N; conv => whnf) | (refine Drawn.mk (by kernel_rfl) ?_; conv => whnf) | (refine FillK.row rfl ?_; conv => whnf) | (refine FillK.lit rfl ?_; conv => whnf) | (refine iteT (by omega) ?_; conv => whnf) | (refine iteF (by omega) ?_; conv => whnf) | (refine iteET (by omega) ?_; conv => whnf) | (refine iteEF (by omega) ?_; conv => whnf) | (refine iteNT (by omega) ?_; conv => whnf) | (refine iteNF (by omega) ?_; conv => whnf))
          refine bytes_ld (hB.keep H.keep) rfl hy (by first | omega | (simp; done) | (simp; omega)) ?_
          conv => whnf
          repeat (first | (refine cnd_intro (by first | (simp; done) | (simp; omega) | omega | (simp only [Bool.and_eq_true, decide_eq_true_eq]; omega)) ?_; conv => whnf) | (refine Hp.ld H 0 rfl rfl ?_; conv => whnf) | (refine Hp.ld H 1 rfl rfl ?_; conv => whnf) | (refine Hp.ld H 2 rfl rfl ?_; conv => whnf) | (refine Hp.ld H 3 rfl rfl ?_; conv => whnf) | (refine Hp.ld H 4 rfl rfl ?_; conv => whnf) | (refine Hp.ld H 5 rfl rfl ?_; conv => whnf) | (refine Hp.st H 0 rfl rfl rfl rfl rfl ?_; intro h H; conv => whnf) | (refine Hp.st H 1 rfl rfl rfl rfl rfl ?_; intro h H; conv => whnf) | (refine Hp.st H 2 rfl rfl rfl rfl rfl ?_; intro h H; conv => whnf) | (refine Hp.st H 3 rfl rfl rfl rfl rfl ?_; intro h H; conv => whnf) | (refine Hp.st H 4 rfl rfl rfl rfl rfl ?_; intro h H; conv => whnf) | (refine Hp.st H 5 rfl rfl rfl rfl rfl ?_; intro h H; conv => whnf) | (intro b h N; replace H := Hp.new H N; clear N; conv => whnf) | (refine Drawn.mk (by kernel_rfl) ?_; conv => whnf) | (refine FillK.row rfl ?_; conv => whnf) | (refine FillK.lit rfl ?_; conv => whnf) | (refine iteT (by omega) ?_; conv => whnf) | (refine iteF (by omega) ?_; conv => whnf) | (refine iteET (by omega) ?_; conv => whnf) | (refine iteEF (by omega) ?_; conv => whnf) | (refine iteNT (by omega) ?_; conv => whnf) | (refine iteNF (by omega) ?_; conv => whnf))
          refine bytes_ld (hC.keep H.keep) rfl hw (by first | omega | (simp; done) | (simp; omega)) ?_
          conv => whnf
          repeat (first | (refine cnd_intro (by first | (simp; done) | (simp; omega) | omega | (simp only [Bool.and_eq_true, decide_eq_true_eq]; omega)) ?_; conv => whnf) | (refine Hp.ld H 0 rfl rfl ?_; conv => whnf) | (refine Hp.ld H 1 rfl rfl ?_; conv => whnf) | (refine Hp.ld H 2 rfl rfl ?_; conv => whnf) | (refine Hp.ld H 3 rfl rfl ?_; conv => whnf) | (refine Hp.ld H 4 rfl rfl ?_; conv => whnf) | (refine Hp.ld H 5 rfl rfl ?_; conv => whnf) | (refine Hp.st H 0 rfl rfl rfl rfl rfl ?_; intro h H; conv => whnf) | (refine Hp.st H 1 rfl rfl rfl rfl rfl ?_; intro h H; conv => whnf) | (refine Hp.st H 2 rfl rfl rfl rfl rfl ?_; intro h H; conv => whnf) | (refine Hp.st H 3 rfl rfl rfl rfl rfl ?_; intro h H; conv => whnf) | (refine Hp.st H 4 rfl rfl rfl rfl rfl ?_; intro h H; conv => whnf) | (refine Hp.st H 5 rfl rfl rfl rfl rfl ?_; intro h H; conv => whnf) | (intro b h N; replace H := Hp.new H N; clear N; conv => whnf) | (refine Drawn.mk (by kernel_rfl) ?_; conv => whnf) | (refine FillK.row rfl ?_; conv => whnf) | (refine FillK.lit rfl ?_; conv => whnf) | (refine iteT (by omega) ?_; conv => whnf) | (refine iteF (by omega) ?_; conv => whnf) | (refine iteET (by omega) ?_; conv => whnf) | (refine iteEF (by omega) ?_; conv => whnf) | (refine iteNT (by omega) ?_; conv => whnf) | (refine iteNF (by omega) ?_; conv => whnf))
          refine Hp.stAt H 0 rfl (y := u8T) rfl rfl rfl rfl (o := i) (by first | omega | (simp; done) | (simp; omega)) (by simp; omega) ?_
          intro h4 H
          have q : bXor .u8 (bXor .u8 (x.toNat : Int) (y.toNat : Int)) (w.toNat : Int) = (((x ^^^ y ^^^ w : UInt8)).toNat : Int) := by
            have h1 := bXor8 x.toBitVec y.toBitVec
            have h2 := bXor8 (x.toBitVec ^^^ y.toBitVec) w.toBitVec
            rw [← h1] at h2
            exact h2
          rw [q] at H
          conv => whnf
          repeat (first | (refine cnd_intro (by first | (simp; done) | (simp; omega) | omega | (simp only [Bool.and_eq_true, decide_eq_true_eq]; omega)) ?_; conv => whnf) | (refine Hp.ld H 0 rfl rfl ?_; conv => whnf) | (refine Hp.ld H 1 rfl rfl ?_; conv => whnf) | (refine Hp.ld H 2 rfl rfl ?_; conv => whnf) | (refine Hp.ld H 3 rfl rfl ?_; conv => whnf) | (refine Hp.ld H 4 rfl rfl ?_; conv => whnf) | (refine Hp.ld H 5 rfl rfl ?_; conv => whnf) | (refine Hp.st H 0 rfl rfl rfl rfl rfl ?_; intro h H; conv => whnf) | (refine Hp.st H 1 rfl rfl rfl rfl rfl ?_; intro h H; conv => whnf) | (refine Hp.st H 2 rfl rfl rfl rfl rfl ?_; intro h H; conv => whnf) | (refine Hp.st H 3 rfl rfl rfl rfl rfl ?_; intro h H; conv => whnf) | (refine Hp.st H 4 rfl rfl rfl rfl rfl ?_; intro h H; conv => whnf) | (refine Hp.st H 5 rfl rfl rfl rfl rfl ?_; intro h H; conv => whnf) | (intro b h N; replace H := Hp.new H N; clear N; conv => whnf) | (refine Drawn.mk (by kernel_rfl) ?_; conv => whnf) | (refine FillK.row rfl ?_; conv => whnf) | (refine FillK.lit rfl ?_; conv => whnf) | (refine iteT (by omega) ?_; conv => whnf) | (refine iteF (by omega) ?_; conv => whnf) | (refine iteET (by omega) ?_; conv => whnf) | (refine iteEF (by omega) ?_; conv => whnf) | (refine iteNT (by omega) ?_; conv => whnf) | (refine iteNF (by omega) ?_; conv => whnf))
          refine ⟨i + 1, ⟨?_, trivial⟩, ⟨rfl, rfl, rfl, rfl, rfl, rfl, rfl, rfl, trivial⟩, ⟨by omega, ?_⟩, by show A.length - (i + 1) < A.length - i; omega⟩
          · show Value.int .i64 _ = _; rw [wrap64_id (by omega) (by omega)]; rfl
          · have e := fill_set (z := (0 : UInt8)) hX (xor3_at hx hy hw)
            rw [← e, List.map_set]
            exact H
        · obtain rfl : i = A.length := by omega
          rw [fill_end hX] at H
          have e := crcSum_xor3 (A := A) (B := B) (C := C) (by omega) (by omega)
          have hD := H.bytes 0 rfl rfl hX.symm (Nat.le_refl _)
          have H0 := H
          conv => whnf
          repeat (first | (refine cnd_intro (by first | (simp; done) | (simp; omega) | omega | (simp only [Bool.and_eq_true, decide_eq_true_eq]; omega)) ?_; conv => whnf) | (refine Hp.ld H 0 rfl rfl ?_; conv => whnf) | (refine Hp.ld H 1 rfl rfl ?_; conv => whnf) | (refine Hp.ld H 2 rfl rfl ?_; conv => whnf) | (refine Hp.ld H 3 rfl rfl ?_; conv => whnf) | (refine Hp.ld H 4 rfl rfl ?_; conv => whnf) | (refine Hp.ld H 5 rfl rfl ?_; conv => whnf) | (refine Hp.st H 0 rfl rfl rfl rfl rfl ?_; intro h H; conv => whnf) | (refine Hp.st H 1 rfl rfl rfl rfl rfl ?_; intro h H; conv => whnf) | (refine Hp.st H 2 rfl rfl rfl rfl rfl ?_; intro h H; conv => whnf) | (refine Hp.st H 3 rfl rfl rfl rfl rfl ?_; intro h H; conv => whnf) | (refine Hp.st H 4 rfl rfl rfl rfl rfl ?_; intro h H; conv => whnf) | (refine Hp.st H 5 rfl rfl rfl rfl rfl ?_; intro h H; conv => whnf) | (intro b h N; replace H := Hp.new H N; clear N; conv => whnf) | (refine Drawn.mk (by kernel_rfl) ?_; conv => whnf) | (refine FillK.row rfl ?_; conv => whnf) | (refine FillK.lit rfl ?_; conv => whnf) | (refine iteT (by omega) ?_; conv => whnf) | (refine iteF (by omega) ?_; conv => whnf) | (refine iteET (by omega) ?_; conv => whnf) | (refine iteEF (by omega) ?_; conv => whnf) | (refine iteNT (by omega) ?_; conv => whnf) | (refine iteNF (by omega) ?_; conv => whnf))
          refine CallK.mono (sum1_call _ _ _ A (H.get 0 rfl) (hA.keep H.keep) (by omega) 1) ?_
          rintro _ h5 ⟨rfl, k5⟩
          replace H := H.and k5
          conv => whnf
          repeat (first | (refine cnd_intro (by first | (simp; done) | (simp; omega) | omega | (simp only [Bool.and_eq_true, decide_eq_true_eq]; omega)) ?_; conv => whnf) | (refine Hp.ld H 0 rfl rfl ?_; conv => whnf) | (refine Hp.ld H 1 rfl rfl ?_; conv => whnf) | (refine Hp.ld H 2 rfl rfl ?_; conv => whnf) | (refine Hp.ld H 3 rfl rfl ?_; conv => whnf) | (refine Hp.ld H 4 rfl rfl ?_; conv => whnf) | (refine Hp.ld H 5 rfl rfl ?_; conv => whnf) | (refine Hp.st H 0 rfl rfl rfl rfl rfl ?_; intro h H; conv => whnf) | (refine Hp.st H 1 rfl rfl rfl rfl rfl ?_; intro h H; conv => whnf) | (refine Hp.st H 2 rfl rfl rfl rfl rfl ?_; intro h H; conv => whnf) | (refine Hp.st H 3 rfl rfl rfl rfl rfl ?_; intro h H; conv => whnf) | (refine Hp.st H 4 rfl rfl rfl rfl rfl ?_; intro h H; conv => whnf) | (refine Hp.st H 5 rfl rfl rfl rfl rfl ?_; intro h H; conv => whnf) | (intro b h N; replace H := Hp.new H N; clear N; conv => whnf) | (refine Drawn.mk (by kernel_rfl) ?_; conv => whnf) | (refine FillK.row rfl ?_; conv => whnf) | (refine FillK.lit rfl ?_; conv => whnf) | (refine iteT (by omega) ?_; conv => whnf) | (refine iteF (by omega) ?_; conv => whnf) | (refine iteET (by omega) ?_; conv => whnf) | (refine iteEF (by omega) ?_; conv => whnf) | (refine iteNT (by omega) ?_; conv => whnf) | (refine iteNF (by omega) ?_; conv => whnf))
          refine CallK.mono (sum1_call _ _ _ B (H.get 0 rfl) (hB.keep H.keep) (by omega) 1) ?_
          rintro _ h6 ⟨rfl, k6⟩
          replace H := H.and k6
          conv => whnf
          repeat (first | (refine cnd_intro (by first | (simp; done) | (simp; omega) | omega | (simp only [Bool.and_eq_true, decide_eq_true_eq]; omega)) ?_; conv => whnf) | (refine Hp.ld H 0 rfl rfl ?_; conv => whnf) | (refine Hp.ld H 1 rfl rfl ?_; conv => whnf) | (refine Hp.ld H 2 rfl rfl ?_; conv => whnf) | (refine Hp.ld H 3 rfl rfl ?_; conv => whnf) | (refine Hp.ld H 4 rfl rfl ?_; conv => whnf) | (refine Hp.ld H 5 rfl rfl ?_; conv => whnf) | (refine Hp.st H 0 rfl rfl rfl rfl rfl ?_; intro h H; conv => whnf) | (refine Hp.st H 1 rfl rfl rfl rfl rfl ?_; intro h H; conv => whnf) | (refine Hp.st H 2 rfl rfl rfl rfl rfl ?_; intro h H; conv => whnf) | (refine Hp.st H 3 rfl rfl rfl rfl rfl ?_; intro h H; conv => whnf) | (refine Hp.st H 4 rfl rfl rfl rfl rfl ?_; intro h H; conv => whnf) | (refine Hp.st H 5 rfl rfl rfl rfl rfl ?_; intro h H; conv => whnf) | (intro b h N; replace H := Hp.new H N; clear N; conv => whnf) | (refine Drawn.mk (by kernel_rfl) ?_; conv => whnf) | (refine FillK.row rfl ?_; conv => whnf) | (refine FillK.lit rfl ?_; conv => whnf) | (refine iteT (by omega) ?_; conv => whnf) | (refine iteF (by omega) ?_; conv => whnf) | (refine iteET (by omega) ?_; conv => whnf) | (refine iteEF (by omega) ?_; conv => whnf) | (refine iteNT (by omega) ?_; conv => whnf) | (refine iteNF (by omega) ?_; conv => whnf))
          refine CallK.mono (sum1_call _ _ _ C (H.get 0 rfl) (hC.keep H.keep) (by omega) 1) ?_
          rintro _ h7 ⟨rfl, k7⟩
          replace H := H.and k7
          conv => whnf
          repeat (first | (refine cnd_intro (by first | (simp; done) | (simp; omega) | omega | (simp only [Bool.and_eq_true, decide_eq_true_eq]; omega)) ?_; conv => whnf) | (refine Hp.ld H 0 rfl rfl ?_; conv => whnf) | (refine Hp.ld H 1 rfl rfl ?_; conv => whnf) | (refine Hp.ld H 2 rfl rfl ?_; conv => whnf) | (refine Hp.ld H 3 rfl rfl ?_; conv => whnf) | (refine Hp.ld H 4 rfl rfl ?_; conv => whnf) | (refine Hp.ld H 5 rfl rfl ?_; conv => whnf) | (refine Hp.st H 0 rfl rfl rfl rfl rfl ?_; intro h H; conv => whnf) | (refine Hp.st H 1 rfl rfl rfl rfl rfl ?_; intro h H; conv => whnf) | (refine Hp.st H 2 rfl rfl rfl rfl rfl ?_; intro h H; conv => whnf) | (refine Hp.st H 3 rfl rfl rfl rfl rfl ?_; intro h H; conv => whnf) | (refine Hp.st H 4 rfl rfl rfl rfl rfl ?_; intro h H; conv => whnf) | (refine Hp.st H 5 rfl rfl rfl rfl rfl ?_; intro h H; conv => whnf) | (intro b h N; replace H := Hp.new H N; clear N; conv => whnf) | (refine Drawn.mk (by kernel_rfl) ?_; conv => whnf) | (refine FillK.row rfl ?_; conv => whnf) | (refine FillK.lit rfl ?_; conv => whnf) | (refine iteT (by omega) ?_; conv => whnf) | (refine iteF (by omega) ?_; conv => whnf) | (refine iteET (by omega) ?_; conv => whnf) | (refine iteEF (by omega) ?_; conv => whnf) | (refine iteNT (by omega) ?_; conv => whnf) | (refine iteNF (by omega) ?_; conv => whnf))
          refine CallK.mono (sum1_call _ _ _ (xor3 A B C) (H.get 0 rfl) (H.bytes 4 rfl rfl hX.symm (Nat.le_refl _)) (by omega) 1) ?_
          rintro _ h8 ⟨rfl, k8⟩
          replace H := H.and k8
          have q1 := bXor32 (crcSum A) (crcSum B)
          have q2 := bXor32 (crcSum A ^^^ crcSum B) (crcSum C)
          rw [← q1, e] at q2
          conv => whnf
          rw [q2]
          conv => whnf
          refine ⟨?_, H.keep⟩
          rw [tup_one, beq_self_eq_true]

end Go.Proofs.Ytlgekbknebbnlaa
