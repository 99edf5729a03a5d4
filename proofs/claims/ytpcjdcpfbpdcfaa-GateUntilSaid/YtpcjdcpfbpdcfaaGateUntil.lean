import Derived.Test.YtpcjdcpfbpdcfaaGate7
namespace Go.Proofs.Ytpcjdcpfbpdcfaa
open Go.Vc
set_option maxRecDepth 100000
set_option maxHeartbeats 4000000

def pE (k : Nat) (x : Ent) : Bool := bAnd .i64 x.op (bShl .i64 1 (k : Int)) != 0
def pN (k : Nat) (x : Ent) : Bool := bAnd .i64 x.op (bShl .i64 1 (k : Int)) == 0

theorem all_takeU {α : Type} {p : α → Bool} {l : List α} {i : Nat} {x : α} (h : l[i]? = some x) : (l.take (i + 1)).all p = ((l.take i).all p && p x) := by
  rw [List.take_add_one, h]
  simp

theorem open_255 {k : Nat} (h : k ≤ 7) : (bAnd .i64 255 (bShl .i64 1 (k : Int)) == 0) = false := by
  rcases (by omega : k = 0 ∨ k = 1 ∨ k = 2 ∨ k = 3 ∨ k = 4 ∨ k = 5 ∨ k = 6 ∨ k = 7) with rfl | rfl | rfl | rfl | rfl | rfl | rfl | rfl <;> kernel_rfl

theorem bne_of_beq {a b : Int} {q : Bool} (h : (a == b) = q) : (a != b) = !q := by rw [← h]; rfl

theorem ever_until {l : Gl} (ok : l.Ok) {k : Nat} (hk : k ≤ 7) (h : l.es.all (pE k) = true) (u : Int) : pU l k u = false := by
  unfold pU
  by_cases hb : u < l.base
  · have e : l.state u = 255 := by unfold Gl.state; rw [if_pos hb]
    rw [e]
    exact open_255 hk
  · have e : l.state u = l.opens (l.at u).1 := by unfold Gl.state; rw [if_neg hb]
    obtain ⟨x, hx, ex⟩ := ok.opens u
    rw [e, ex]
    have := List.all_eq_true.1 h x hx
    unfold pE at this
    cases hq : (bAnd .i64 x.op (bShl .i64 1 (k : Int)) == 0) with
    | false => rfl
    | true => rw [bne_of_beq hq] at this; cases this

theorem never_from {l : Gl} (ok : l.Ok) {k : Nat} (h : l.es.all (pN k) = true) {u : Int} (hb : l.base ≤ u) : pF l k u = false := by
  unfold pF
  have e : l.state u = l.opens (l.at u).1 := by unfold Gl.state; rw [if_neg (by omega)]
  obtain ⟨x, hx, ex⟩ := ok.opens u
  rw [e, ex]
  have := List.all_eq_true.1 h x hx
  unfold pN at this
  rw [bne_of_beq this]
  rfl

theorem pU_not (l : Gl) (k : Nat) (x : Int) : pU l k x = !(pF l k x) := by
  unfold pU pF
  cases h : (bAnd .i64 (l.state x) (bShl .i64 1 (k : Int)) == 0) with
  | false => rw [bne_of_beq h]; rfl
  | true => rw [bne_of_beq h]; rfl

/-- Where the first edge at which a class may not go lies, seen from an edge. -/
theorem until_at {l : Gl} (ok : l.Ok) {k N : Nat} {t : Int} {i : Nat} (hi : i < N) (ht : 0 ≤ t) {o : Bool} (ho : pF l k (l.step t i) = o) :
    (o = true ∧ (firstF (pU l k) l t N 0 = -1 ∨ (l.step t i < firstF (pU l k) l t N 0 ∧ l.step t (i + 1) ≤ firstF (pU l k) l t N 0))) ∨ (o = false ∧ firstF (pU l k) l t N 0 = l.step t i) ∨ (0 ≤ firstF (pU l k) l t N 0 ∧ firstF (pU l k) l t N 0 < l.step t i) := by
  have hn := pU_not l k (l.step t i)
  rw [ho] at hn
  rcases first_spec (p := pU l k) (l := l) (t := t) N 0 with ⟨h1, h2⟩ | ⟨j, _, h2, h3, h4, h5⟩
  · rw [h2 i (by omega) (by omega)] at hn
    exact .inl ⟨(by cases o with | true => rfl | false => cases hn), .inl h1⟩
  · rw [h3]
    rcases Nat.lt_trichotomy i j with h | rfl | h
    · rw [h5 i (by omega) h] at hn
      refine .inl ⟨(by cases o with | true => rfl | false => cases hn), .inr ⟨step_lt ok t h, ?_⟩⟩
      rcases Nat.eq_or_lt_of_le (show i + 1 ≤ j by omega) with e | e
      · rw [e]; exact Int.le_refl _
      · exact Int.le_of_lt (step_lt ok t e)
    · rw [h4] at hn
      exact .inr (.inl ⟨(by cases o with | false => rfl | true => cases hn), rfl⟩)
    · have := step_ge ok t j
      exact .inr (.inr ⟨by omega, step_lt ok t h⟩)

theorem from_at {l : Gl} (ok : l.Ok) {k N : Nat} {t : Int} {i : Nat} (hi : i < N) (ht : 0 ≤ t) {o : Bool} (ho : pF l k (l.step t i) = o) :
    (o = false ∧ (firstF (pF l k) l t N 0 = -1 ∨ l.step t i < firstF (pF l k) l t N 0)) ∨ (o = true ∧ firstF (pF l k) l t N 0 = l.step t i) ∨ (0 ≤ firstF (pF l k) l t N 0 ∧ firstF (pF l k) l t N 0 < l.step t i) := by
  rcases first_spec (p := pF l k) (l := l) (t := t) N 0 with ⟨h1, h2⟩ | ⟨j, _, h2, h3, h4, h5⟩
  · rw [h2 i (by omega) (by omega)] at ho
    exact .inl ⟨ho.symm, .inl h1⟩
  · rw [h3]
    rcases Nat.lt_trichotomy i j with h | rfl | h
    · rw [h5 i (by omega) h] at ho
      exact .inl ⟨ho.symm, .inr (step_lt ok t h)⟩
    · rw [h4] at ho
      exact .inr (.inl ⟨ho.symm, rfl⟩)
    · have := step_ge ok t j
      exact .inr (.inr ⟨by omega, step_lt ok t h⟩)

/-- What the first edge is. -/
theorem first_out {l : Gl} (ok : l.Ok) {p : Int → Bool} {t : Int} {N : Nat} (hN : N ≤ 131) (ht : 0 ≤ t ∧ t ≤ 4611686018427387904) : firstF p l t N 0 = -1 ∨ (t ≤ firstF p l t N 0 ∧ firstF p l t N 0 ≤ 9000000000000000000 ∧ p (firstF p l t N 0) = true) := by
  rcases first_spec (p := p) (l := l) (t := t) N 0 with ⟨h1, _⟩ | ⟨j, _, h2, h3, h4, _⟩
  · exact .inl h1
  · rw [h3]
    have := step_ge ok t j
    have := step_big ok ht (i := j) (by omega)
    exact .inr ⟨by omega, by omega, h4⟩

theorem law_GateUntil (v0 v1 v2 : Value) (h0 : Heap) (a0 : Arg EE h0 65 v0) (a1 : Arg EE h0 3 v1) (a2 : Arg EE h0 2 v2) :
    CallK Try.prog 12 #[v0, v1, v2] h0 fun v h' => v = .bool true ∧ Keep (fun _ => False) h0 h' := by
  obtain ⟨l, s, rfl, hs, hl, _, _⟩ := arg_list a0
  obtain ⟨n, rfl, hn1, hn2⟩ := arg_tint a1
  obtain ⟨t, rfl, ht1, ht2⟩ := arg_t64 a2
  obtain ⟨A, c, rfl, hc, _⟩ := hs.out
  refine CallK.of_vc (EA_ok [34]) [0, 1, 2, 3, 6, 7, 8, 9, 10, 11, 13, 14, 15, 16, 18, 30, 42, 43, 44, 45, 70, 71, 72, 110, 129, 142, 176] Try.func12 rfl (Nat.le_of_ble_eq_true rfl) ?_
  have H := Hp.start h0
  conv => whnf
  intro g h1 N
  replace H := H.new N
  clear N
  conv => whnf
  repeat (first | (refine cnd_intro (by first | (simp; done) | (simp; omega) | omega | (simp only [Bool.and_eq_true, decide_eq_true_eq]; omega)) ?_; conv => whnf) | (refine Hp.ld H 0 rfl rfl ?_; conv => whnf) | (refine Hp.ld H 1 rfl rfl ?_; conv => whnf) | (refine Hp.ld H 2 rfl rfl ?_; conv => whnf) | (refine Hp.ld H 3 rfl rfl ?_; conv => whnf) | (refine Hp.ld H 4 rfl rfl ?_; conv => whnf) | (refine Hp.ld H 5 rfl rfl ?_; conv => whnf) | (refine Hp.st H 0 rfl rfl rfl rfl rfl ?_; intro h H; conv => whnf) | (refine Hp.st H 1 rfl rfl rfl rfl rfl ?_; intro h H; conv => whnf) | (refine Hp.st H 2 rfl rfl rfl rfl rfl ?_; intro h H; conv => whnf) | (refine Hp.st H 3 rfl rfl rfl rfl rfl ?_; intro h H; conv => whnf) | (refine Hp.st H 4 rfl rfl rfl rfl rfl ?_; intro h H; conv => whnf) | (refine Hp.st H 5 rfl rfl rfl rfl rfl ?_; intro h H; conv => whnf) | (intro b h N; replace H := Hp.new H N; clear N; conv => whnf) | (refine Drawn.mk (by kernel_rfl) ?_; conv => whnf) | (refine FillK.row rfl ?_; conv => whnf) | (refine FillK.lit rfl ?_; conv => whnf) | (refine WrapK.i64 (by omega) (by omega) ?_; conv => whnf) | (refine WrapK.u64 (by omega) (by omega) ?_; conv => whnf) | (refine WrapK.u32 (by omega) (by omega) ?_; conv => whnf) | (refine WrapK.u8 (by omega) (by omega) ?_; conv => whnf) | (refine iteT (by omega) ?_; conv => whnf) | (refine iteF (by omega) ?_; conv => whnf) | (refine iteET (by omega) ?_; conv => whnf) | (refine iteEF (by omega) ?_; conv => whnf) | (refine iteNT (by omega) ?_; conv => whnf) | (refine iteNF (by omega) ?_; conv => whnf))
  refine CallK.mono (opens_call _) ?_
  rintro _ h2 ⟨rfl, k2⟩
  replace H := H.and k2
  conv => whnf
  repeat (first | (refine cnd_intro (by first | (simp; done) | (simp; omega) | omega | (simp only [Bool.and_eq_true, decide_eq_true_eq]; omega)) ?_; conv => whnf) | (refine Hp.ld H 0 rfl rfl ?_; conv => whnf) | (refine Hp.ld H 1 rfl rfl ?_; conv => whnf) | (refine Hp.ld H 2 rfl rfl ?_; conv => whnf) | (refine Hp.ld H 3 rfl rfl ?_; conv => whnf) | (refine Hp.ld H 4 rfl rfl ?_; conv => whnf) | (refine Hp.ld H 5 rfl rfl ?_; conv => whnf) | (refine Hp.st H 0 rfl rfl rfl rfl rfl ?_; intro h H; conv => whnf) | (refine Hp.st H 1 rfl rfl rfl rfl rfl ?_; intro h H; conv => whnf) | (refine Hp.st H 2 rfl rfl rfl rfl rfl ?_; intro h H; conv => whnf) | (refine Hp.st H 3 rfl rfl rfl rfl rfl ?_; intro h H; conv => whnf) | (refine Hp.st H 4 rfl rfl rfl rfl rfl ?_; intro h H; conv => whnf) | (refine Hp.st H 5 rfl rfl rfl rfl rfl ?_; intro h H; conv => whnf) | (intro b h N; replace H := Hp.new H N; clear N; conv => whnf) | (refine Drawn.mk (by kernel_rfl) ?_; conv => whnf) | (refine FillK.row rfl ?_; conv => whnf) | (refine FillK.lit rfl ?_; conv => whnf) | (refine WrapK.i64 (by omega) (by omega) ?_; conv => whnf) | (refine WrapK.u64 (by omega) (by omega) ?_; conv => whnf) | (refine WrapK.u32 (by omega) (by omega) ?_; conv => whnf) | (refine WrapK.u8 (by omega) (by omega) ?_; conv => whnf) | (refine iteT (by omega) ?_; conv => whnf) | (refine iteF (by omega) ?_; conv => whnf) | (refine iteET (by omega) ?_; conv => whnf) | (refine iteEF (by omega) ?_; conv => whnf) | (refine iteNT (by omega) ?_; conv => whnf) | (refine iteNF (by omega) ?_; conv => whnf))
  refine CallK.mono (fits_call _ l _ t (hs.keep H.keep) hl) ?_
  rintro _ h3 ⟨k3, rfl⟩
  replace H := H.and k3
  cases hf : l.fits t with
  | false =>
    conv => whnf
    repeat (first | (refine cnd_intro (by first | (simp; done) | (simp; omega) | omega | (simp only [Bool.and_eq_true, decide_eq_true_eq]; omega)) ?_; conv => whnf) | (refine Hp.ld H 0 rfl rfl ?_; conv => whnf) | (refine Hp.ld H 1 rfl rfl ?_; conv => whnf) | (refine Hp.ld H 2 rfl rfl ?_; conv => whnf) | (refine Hp.ld H 3 rfl rfl ?_; conv => whnf) | (refine Hp.ld H 4 rfl rfl ?_; conv => whnf) | (refine Hp.ld H 5 rfl rfl ?_; conv => whnf) | (refine Hp.st H 0 rfl rfl rfl rfl rfl ?_; intro h H; conv => whnf) | (refine Hp.st H 1 rfl rfl rfl rfl rfl ?_; intro h H; conv => whnf) | (refine Hp.st H 2 rfl rfl rfl rfl rfl ?_; intro h H; conv => whnf) | (refine Hp.st H 3 rfl rfl rfl rfl rfl ?_; intro h H; conv => whnf) | (refine Hp.st H 4 rfl rfl rfl rfl rfl ?_; intro h H; conv => whnf) | (refine Hp.st H 5 rfl rfl rfl rfl rfl ?_; intro h H; conv => whnf) | (intro b h N; replace H := Hp.new H N; clear N; conv => whnf) | (refine Drawn.mk (by kernel_rfl) ?_; conv => whnf) | (refine FillK.row rfl ?_; conv => whnf) | (refine FillK.lit rfl ?_; conv => whnf) | (refine WrapK.i64 (by omega) (by omega) ?_; conv => whnf) | (refine WrapK.u64 (by omega) (by omega) ?_; conv => whnf) | (refine WrapK.u32 (by omega) (by omega) ?_; conv => whnf) | (refine WrapK.u8 (by omega) (by omega) ?_; conv => whnf) | (refine iteT (by omega) ?_; conv => whnf) | (refine iteF (by omega) ?_; conv => whnf) | (refine iteET (by omega) ?_; conv => whnf) | (refine iteEF (by omega) ?_; conv => whnf) | (refine iteNT (by omega) ?_; conv => whnf) | (refine iteNF (by omega) ?_; conv => whnf))
    exact ⟨rfl, H.keep⟩
  | true =>
    obtain ⟨ok, t0, t1⟩ := fits_out hf
    have b0 := ok.b0
    have b1 := ok.b1
    have c0 := ok.c0
    have c1 := ok.c1
    have n1 := ok.n1
    have n2 := ok.n2
    by_cases d1 : n < 0
    · conv => whnf
      repeat (first | (refine cnd_intro (by first | (simp; done) | (simp; omega) | omega | (simp only [Bool.and_eq_true, decide_eq_true_eq]; omega)) ?_; conv => whnf) | (refine Hp.ld H 0 rfl rfl ?_; conv => whnf) | (refine Hp.ld H 1 rfl rfl ?_; conv => whnf) | (refine Hp.ld H 2 rfl rfl ?_; conv => whnf) | (refine Hp.ld H 3 rfl rfl ?_; conv => whnf) | (refine Hp.ld H 4 rfl rfl ?_; conv => whnf) | (refine Hp.ld H 5 rfl rfl ?_; conv => whnf) | (refine Hp.st H 0 rfl rfl rfl rfl rfl ?_; intro h H; conv => whnf) | (refine Hp.st H 1 rfl rfl rfl rfl rfl ?_; intro h H; conv => whnf) | (refine Hp.st H 2 rfl rfl rfl rfl rfl ?_; intro h H; conv => whnf) | (refine Hp.st H 3 rfl rfl rfl rfl rfl ?_; intro h H; conv => whnf) | (refine Hp.st H 4 rfl rfl rfl rfl rfl ?_; intro h H; conv => whnf) | (refine Hp.st H 5 rfl rfl rfl rfl rfl ?_; intro h H; conv => whnf) | (intro b h N; replace H := Hp.new H N; clear N; conv => whnf) | (refine Drawn.mk (by kernel_rfl) ?_; conv => whnf) | (refine FillK.row rfl ?_; conv => whnf) | (refine FillK.lit rfl ?_; conv => whnf) | (refine WrapK.i64 (by omega) (by omega) ?_; conv => whnf) | (refine WrapK.u64 (by omega) (by omega) ?_; conv => whnf) | (refine WrapK.u32 (by omega) (by omega) ?_; conv => whnf) | (refine WrapK.u8 (by omega) (by omega) ?_; conv => whnf) | (refine iteT (by omega) ?_; conv => whnf) | (refine iteF (by omega) ?_; conv => whnf) | (refine iteET (by omega) ?_; conv => whnf) | (refine iteEF (by omega) ?_; conv => whnf) | (refine iteNT (by omega) ?_; conv => whnf) | (refine iteNF (by omega) ?_; conv => whnf))
      exact ⟨rfl, H.keep⟩
    by_cases d2 : n > 7
    · conv => whnf
      repeat (first | (refine cnd_intro (by first | (simp; done) | (simp; omega) | omega | (simp only [Bool.and_eq_true, decide_eq_true_eq]; omega)) ?_; conv => whnf) | (refine Hp.ld H 0 rfl rfl ?_; conv => whnf) | (refine Hp.ld H 1 rfl rfl ?_; conv => whnf) | (refine Hp.ld H 2 rfl rfl ?_; conv => whnf) | (refine Hp.ld H 3 rfl rfl ?_; conv => whnf) | (refine Hp.ld H 4 rfl rfl ?_; conv => whnf) | (refine Hp.ld H 5 rfl rfl ?_; conv => whnf) | (refine Hp.st H 0 rfl rfl rfl rfl rfl ?_; intro h H; conv => whnf) | (refine Hp.st H 1 rfl rfl rfl rfl rfl ?_; intro h H; conv => whnf) | (refine Hp.st H 2 rfl rfl rfl rfl rfl ?_; intro h H; conv => whnf) | (refine Hp.st H 3 rfl rfl rfl rfl rfl ?_; intro h H; conv => whnf) | (refine Hp.st H 4 rfl rfl rfl rfl rfl ?_; intro h H; conv => whnf) | (refine Hp.st H 5 rfl rfl rfl rfl rfl ?_; intro h H; conv => whnf) | (intro b h N; replace H := Hp.new H N; clear N; conv => whnf) | (refine Drawn.mk (by kernel_rfl) ?_; conv => whnf) | (refine FillK.row rfl ?_; conv => whnf) | (refine FillK.lit rfl ?_; conv => whnf) | (refine WrapK.i64 (by omega) (by omega) ?_; conv => whnf) | (refine WrapK.u64 (by omega) (by omega) ?_; conv => whnf) | (refine WrapK.u32 (by omega) (by omega) ?_; conv => whnf) | (refine WrapK.u8 (by omega) (by omega) ?_; conv => whnf) | (refine iteT (by omega) ?_; conv => whnf) | (refine iteF (by omega) ?_; conv => whnf) | (refine iteET (by omega) ?_; conv => whnf) | (refine iteEF (by omega) ?_; conv => whnf) | (refine iteNT (by omega) ?_; conv => whnf) | (refine iteNF (by omega) ?_; conv => whnf))
      exact ⟨rfl, H.keep⟩
    obtain ⟨k, rfl⟩ : ∃ k : Nat, n = k := ⟨n.toNat, by omega⟩
    obtain ⟨bb, oo, rfl⟩ := hs.some (by omega)
    conv => whnf
    repeat (first | (refine cnd_intro (by first | (simp; done) | (simp; omega) | omega | (simp only [Bool.and_eq_true, decide_eq_true_eq]; omega)) ?_; conv => whnf) | (refine Hp.ld H 0 rfl rfl ?_; conv => whnf) | (refine Hp.ld H 1 rfl rfl ?_; conv => whnf) | (refine Hp.ld H 2 rfl rfl ?_; conv => whnf) | (refine Hp.ld H 3 rfl rfl ?_; conv => whnf) | (refine Hp.ld H 4 rfl rfl ?_; conv => whnf) | (refine Hp.ld H 5 rfl rfl ?_; conv => whnf) | (refine Hp.st H 0 rfl rfl rfl rfl rfl ?_; intro h H; conv => whnf) | (refine Hp.st H 1 rfl rfl rfl rfl rfl ?_; intro h H; conv => whnf) | (refine Hp.st H 2 rfl rfl rfl rfl rfl ?_; intro h H; conv => whnf) | (refine Hp.st H 3 rfl rfl rfl rfl rfl ?_; intro h H; conv => whnf) | (refine Hp.st H 4 rfl rfl rfl rfl rfl ?_; intro h H; conv => whnf) | (refine Hp.st H 5 rfl rfl rfl rfl rfl ?_; intro h H; conv => whnf) | (intro b h N; replace H := Hp.new H N; clear N; conv => whnf) | (refine FillK.row rfl ?_; conv => whnf) | (refine FillK.lit rfl ?_; conv => whnf) | (refine WrapK.i64 (by omega) (by omega) ?_; conv => whnf) | (refine WrapK.u64 (by omega) (by omega) ?_; conv => whnf) | (refine WrapK.u32 (by omega) (by omega) ?_; conv => whnf) | (refine WrapK.u8 (by omega) (by omega) ?_; conv => whnf) | (refine iteT (by omega) ?_; conv => whnf) | (refine iteF (by omega) ?_; conv => whnf) | (refine iteET (by omega) ?_; conv => whnf) | (refine iteEF (by omega) ?_; conv => whnf) | (refine iteNT (by omega) ?_; conv => whnf) | (refine iteNF (by omega) ?_; conv => whnf))
    refine Drawn.ord [0, 1, 2, 4, 5, 6, 3, 7, 8, 9] (by kernel_rfl) ?_
    conv => whnf
    repeat (first | (refine cnd_intro (by first | (simp; done) | (simp; omega) | omega | (simp only [Bool.and_eq_true, decide_eq_true_eq]; omega)) ?_; conv => whnf) | (refine Hp.ld H 0 rfl rfl ?_; conv => whnf) | (refine Hp.ld H 1 rfl rfl ?_; conv => whnf) | (refine Hp.ld H 2 rfl rfl ?_; conv => whnf) | (refine Hp.ld H 3 rfl rfl ?_; conv => whnf) | (refine Hp.ld H 4 rfl rfl ?_; conv => whnf) | (refine Hp.ld H 5 rfl rfl ?_; conv => whnf) | (refine Hp.st H 0 rfl rfl rfl rfl rfl ?_; intro h H; conv => whnf) | (refine Hp.st H 1 rfl rfl rfl rfl rfl ?_; intro h H; conv => whnf) | (refine Hp.st H 2 rfl rfl rfl rfl rfl ?_; intro h H; conv => whnf) | (refine Hp.st H 3 rfl rfl rfl rfl rfl ?_; intro h H; conv => whnf) | (refine Hp.st H 4 rfl rfl rfl rfl rfl ?_; intro h H; conv => whnf) | (refine Hp.st H 5 rfl rfl rfl rfl rfl ?_; intro h H; conv => whnf) | (intro b h N; replace H := Hp.new H N; clear N; conv => whnf) | (refine Drawn.mk (by kernel_rfl) ?_; conv => whnf) | (refine FillK.row rfl ?_; conv => whnf) | (refine FillK.lit rfl ?_; conv => whnf) | (refine WrapK.i64 (by omega) (by omega) ?_; conv => whnf) | (refine WrapK.u64 (by omega) (by omega) ?_; conv => whnf) | (refine WrapK.u32 (by omega) (by omega) ?_; conv => whnf) | (refine WrapK.u8 (by omega) (by omega) ?_; conv => whnf) | (refine iteT (by omega) ?_; conv => whnf) | (refine iteF (by omega) ?_; conv => whnf) | (refine iteET (by omega) ?_; conv => whnf) | (refine iteEF (by omega) ?_; conv => whnf) | (refine iteNT (by omega) ?_; conv => whnf) | (refine iteNF (by omega) ?_; conv => whnf))
    refine CallK.mono (until_call _ l _ k t (hs.keep H.keep) ok (by omega) ⟨t0, by omega⟩) ?_
    rintro _ h4 ⟨k4, rfl⟩
    replace H := H.and k4
    conv => whnf
    refine ⟨k4, ?_⟩
    conv => whnf
    repeat (first | (refine cnd_intro (by first | (simp; done) | (simp; omega) | omega | (simp only [Bool.and_eq_true, decide_eq_true_eq]; omega)) ?_; conv => whnf) | (refine Hp.ld H 0 rfl rfl ?_; conv => whnf) | (refine Hp.ld H 1 rfl rfl ?_; conv => whnf) | (refine Hp.ld H 2 rfl rfl ?_; conv => whnf) | (refine Hp.ld H 3 rfl rfl ?_; conv => whnf) | (refine Hp.ld H 4 rfl rfl ?_; conv => whnf) | (refine Hp.ld H 5 rfl rfl ?_; conv => whnf) | (refine Hp.st H 0 rfl rfl rfl rfl rfl ?_; intro h H; conv => whnf) | (refine Hp.st H 1 rfl rfl rfl rfl rfl ?_; intro h H; conv => whnf) | (refine Hp.st H 2 rfl rfl rfl rfl rfl ?_; intro h H; conv => whnf) | (refine Hp.st H 3 rfl rfl rfl rfl rfl ?_; intro h H; conv => whnf) | (refine Hp.st H 4 rfl rfl rfl rfl rfl ?_; intro h H; conv => whnf) | (refine Hp.st H 5 rfl rfl rfl rfl rfl ?_; intro h H; conv => whnf) | (intro b h N; replace H := Hp.new H N; clear N; conv => whnf) | (refine Drawn.mk (by kernel_rfl) ?_; conv => whnf) | (refine FillK.row rfl ?_; conv => whnf) | (refine FillK.lit rfl ?_; conv => whnf) | (refine WrapK.i64 (by omega) (by omega) ?_; conv => whnf) | (refine WrapK.u64 (by omega) (by omega) ?_; conv => whnf) | (refine WrapK.u32 (by omega) (by omega) ?_; conv => whnf) | (refine WrapK.u8 (by omega) (by omega) ?_; conv => whnf) | (refine iteT (by omega) ?_; conv => whnf) | (refine iteF (by omega) ?_; conv => whnf) | (refine iteET (by omega) ?_; conv => whnf) | (refine iteEF (by omega) ?_; conv => whnf) | (refine iteNT (by omega) ?_; conv => whnf) | (refine iteNF (by omega) ?_; conv => whnf))
    refine CallK.mono (from_call _ l _ k t (hs.keep H.keep) ok (by omega) ⟨t0, by omega⟩) ?_
    rintro _ h5 ⟨k5, rfl⟩
    replace H := H.and k5
    obtain ⟨M, hM⟩ : ∃ M : Nat, M = 2 * l.es.length + 3 := ⟨_, rfl⟩
    rw [← hM]
    have hU := fun i (hi : i < M) o (ho : pF l k (l.step t i) = o) => until_at ok (k := k) (N := M) hi t0 ho
    have hF := fun i (hi : i < M) o (ho : pF l k (l.step t i) = o) => from_at ok (k := k) (N := M) hi t0 ho
    have hU2 := first_out ok (p := pU l k) (t := t) (N := M) (by omega) ⟨t0, by omega⟩
    have hF2 := first_out ok (p := pF l k) (t := t) (N := M) (by omega) ⟨t0, by omega⟩
    generalize firstF (pU l k) l t M 0 = U at *
    generalize firstF (pF l k) l t M 0 = F at *
    conv => whnf
    repeat (first | (refine cnd_intro (by first | (simp; done) | (simp; omega) | omega | (simp only [Bool.and_eq_true, decide_eq_true_eq]; omega)) ?_; conv => whnf) | (refine Hp.ld H 0 rfl rfl ?_; conv => whnf) | (refine Hp.ld H 1 rfl rfl ?_; conv => whnf) | (refine Hp.ld H 2 rfl rfl ?_; conv => whnf) | (refine Hp.ld H 3 rfl rfl ?_; conv => whnf) | (refine Hp.ld H 4 rfl rfl ?_; conv => whnf) | (refine Hp.ld H 5 rfl rfl ?_; conv => whnf) | (refine Hp.st H 0 rfl rfl rfl rfl rfl ?_; intro h H; conv => whnf) | (refine Hp.st H 1 rfl rfl rfl rfl rfl ?_; intro h H; conv => whnf) | (refine Hp.st H 2 rfl rfl rfl rfl rfl ?_; intro h H; conv => whnf) | (refine Hp.st H 3 rfl rfl rfl rfl rfl ?_; intro h H; conv => whnf) | (refine Hp.st H 4 rfl rfl rfl rfl rfl ?_; intro h H; conv => whnf) | (refine Hp.st H 5 rfl rfl rfl rfl rfl ?_; intro h H; conv => whnf) | (intro b h N; replace H := Hp.new H N; clear N; conv => whnf) | (refine Drawn.mk (by kernel_rfl) ?_; conv => whnf) | (refine FillK.row rfl ?_; conv => whnf) | (refine FillK.lit rfl ?_; conv => whnf) | (refine WrapK.i64 (by omega) (by omega) ?_; conv => whnf) | (refine WrapK.u64 (by omega) (by omega) ?_; conv => whnf) | (refine WrapK.u32 (by omega) (by omega) ?_; conv => whnf) | (refine WrapK.u8 (by omega) (by omega) ?_; conv => whnf) | (refine iteT (by omega) ?_; conv => whnf) | (refine iteF (by omega) ?_; conv => whnf) | (refine iteET (by omega) ?_; conv => whnf) | (refine iteEF (by omega) ?_; conv => whnf) | (refine iteNT (by omega) ?_; conv => whnf) | (refine iteNF (by omega) ?_; conv => whnf))
    refine ⟨Nat × Bool × Bool, [2, 3, 7, 8, 9, 42, 43], fun i => [(44, .int .i64 (i.1 : Nat)), (10, .bool i.2.1), (11, .bool i.2.2)], fun i h' => i.1 ≤ l.es.length ∧ i.2.1 = (l.es.take i.1).all (pE k) ∧ i.2.2 = (l.es.take i.1).all (pN k) ∧ Hp h0 h' [Res.ob g (.cells (l.cells (.slice (some ⟨bb, oo, none⟩) l.es.length c)).toArray 65 (0, 0))], fun i => l.es.length - i.1, ?_⟩
    conv => whnf
    refine ⟨⟨(0, true, true), ⟨rfl, rfl, rfl, trivial⟩, by show 0 ≤ l.es.length; omega, rfl, rfl, H⟩, ?_⟩
    clear H
    rintro ⟨i, ev, nv⟩ h6 ⟨iA, iE, iN, H⟩
    dsimp only at iA iE iN H ⊢
    by_cases ci : i < l.es.length
    · obtain ⟨x, hx⟩ := list_at ci
      have hE := all_takeU (p := pE k) hx
      have hN := all_takeU (p := pN k) hx
      rw [← iE] at hE
      rw [← iN] at hN
      conv => whnf
      repeat (first | (refine cnd_intro (by first | (simp; done) | (simp; omega) | omega | (simp only [Bool.and_eq_true, decide_eq_true_eq]; omega)) ?_; conv => whnf) | (refine Hp.ld H 0 rfl rfl ?_; conv => whnf) | (refine Hp.ld H 1 rfl rfl ?_; conv => whnf) | (refine Hp.ld H 2 rfl rfl ?_; conv => whnf) | (refine Hp.ld H 3 rfl rfl ?_; conv => whnf) | (refine Hp.ld H 4 rfl rfl ?_; conv => whnf) | (refine Hp.ld H 5 rfl rfl ?_; conv => whnf) | (refine Hp.st H 0 rfl rfl rfl rfl rfl ?_; intro h H; conv => whnf) | (refine Hp.st H 1 rfl rfl rfl rfl rfl ?_; intro h H; conv => whnf) | (refine Hp.st H 2 rfl rfl rfl rfl rfl ?_; intro h H; conv => whnf) | (refine Hp.st H 3 rfl rfl rfl rfl rfl ?_; intro h H; conv => whnf) | (refine Hp.st H 4 rfl rfl rfl rfl rfl ?_; intro h H; conv => whnf) | (refine Hp.st H 5 rfl rfl rfl rfl rfl ?_; intro h H; conv => whnf) | (intro b h N; replace H := Hp.new H N; clear N; conv => whnf) | (refine Drawn.mk (by kernel_rfl) ?_; conv => whnf) | (refine FillK.row rfl ?_; conv => whnf) | (refine FillK.lit rfl ?_; conv => whnf) | (refine WrapK.i64 (by omega) (by omega) ?_; conv => whnf) | (refine WrapK.u64 (by omega) (by omega) ?_; conv => whnf) | (refine WrapK.u32 (by omega) (by omega) ?_; conv => whnf) | (refine WrapK.u8 (by omega) (by omega) ?_; conv => whnf) | (refine iteT (by omega) ?_; conv => whnf) | (refine iteF (by omega) ?_; conv => whnf) | (refine iteET (by omega) ?_; conv => whnf) | (refine iteEF (by omega) ?_; conv => whnf) | (refine iteNT (by omega) ?_; conv => whnf) | (refine iteNF (by omega) ?_; conv => whnf))
      refine ent_ld (hs.keep H.keep) hx rfl rfl rfl (by first | omega | (simp; done) | (simp; omega)) ?_
      cases ev <;> cases nv
      all_goals
        conv => whnf
        repeat (first | (refine cnd_intro (by first | (simp; done) | (simp; omega) | omega | (simp only [Bool.and_eq_true, decide_eq_true_eq]; omega)) ?_; conv => whnf) | (refine Hp.ld H 0 rfl rfl ?_; conv => whnf) | (refine Hp.ld H 1 rfl rfl ?_; conv => whnf) | (refine Hp.ld H 2 rfl rfl ?_; conv => whnf) | (refine Hp.ld H 3 rfl rfl ?_; conv => whnf) | (refine Hp.ld H 4 rfl rfl ?_; conv => whnf) | (refine Hp.ld H 5 rfl rfl ?_; conv => whnf) | (refine Hp.st H 0 rfl rfl rfl rfl rfl ?_; intro h H; conv => whnf) | (refine Hp.st H 1 rfl rfl rfl rfl rfl ?_; intro h H; conv => whnf) | (refine Hp.st H 2 rfl rfl rfl rfl rfl ?_; intro h H; conv => whnf) | (refine Hp.st H 3 rfl rfl rfl rfl rfl ?_; intro h H; conv => whnf) | (refine Hp.st H 4 rfl rfl rfl rfl rfl ?_; intro h H; conv => whnf) | (refine Hp.st H 5 rfl rfl rfl rfl rfl ?_; intro h H; conv => whnf) | (intro b h N; replace H := Hp.new H N; clear N; conv => whnf) | (refine Drawn.mk (by kernel_rfl) ?_; conv => whnf) | (refine FillK.row rfl ?_; conv => whnf) | (refine FillK.lit rfl ?_; conv => whnf) | (refine WrapK.i64 (by omega) (by omega) ?_; conv => whnf) | (refine WrapK.u64 (by omega) (by omega) ?_; conv => whnf) | (refine WrapK.u32 (by omega) (by omega) ?_; conv => whnf) | (refine WrapK.u8 (by omega) (by omega) ?_; conv => whnf) | (refine iteT (by omega) ?_; conv => whnf) | (refine iteF (by omega) ?_; conv => whnf) | (refine iteET (by omega) ?_; conv => whnf) | (refine iteEF (by omega) ?_; conv => whnf) | (refine iteNT (by omega) ?_; conv => whnf) | (refine iteNF (by omega) ?_; conv => whnf))
        replace H := H.drop 0
        refine ⟨(i + 1, _, _), ⟨(by first | rfl | (show Value.int .i64 _ = _; congr 1; omega) | (show Value.int .i64 _ = _; rw [wrap64_id (by omega) (by omega)]; first | rfl | (congr 1; omega))), rfl, rfl, trivial⟩, (by repeat (first | exact trivial | refine ⟨rfl, ?_⟩)), ⟨by show i + 1 ≤ l.es.length; omega, ?_, ?_, H⟩, by show l.es.length - (i + 1) < l.es.length - i; omega⟩
        · rw [hE]; rfl
        · rw [hN]; rfl
    obtain rfl : i = l.es.length := by omega
    rw [List.take_of_length_le (Nat.le_refl _)] at iE iN
    conv => whnf
    repeat (first | (refine cnd_intro (by first | (simp; done) | (simp; omega) | omega | (simp only [Bool.and_eq_true, decide_eq_true_eq]; omega)) ?_; conv => whnf) | (refine Hp.ld H 0 rfl rfl ?_; conv => whnf) | (refine Hp.ld H 1 rfl rfl ?_; conv => whnf) | (refine Hp.ld H 2 rfl rfl ?_; conv => whnf) | (refine Hp.ld H 3 rfl rfl ?_; conv => whnf) | (refine Hp.ld H 4 rfl rfl ?_; conv => whnf) | (refine Hp.ld H 5 rfl rfl ?_; conv => whnf) | (refine Hp.st H 0 rfl rfl rfl rfl rfl ?_; intro h H; conv => whnf) | (refine Hp.st H 1 rfl rfl rfl rfl rfl ?_; intro h H; conv => whnf) | (refine Hp.st H 2 rfl rfl rfl rfl rfl ?_; intro h H; conv => whnf) | (refine Hp.st H 3 rfl rfl rfl rfl rfl ?_; intro h H; conv => whnf) | (refine Hp.st H 4 rfl rfl rfl rfl rfl ?_; intro h H; conv => whnf) | (refine Hp.st H 5 rfl rfl rfl rfl rfl ?_; intro h H; conv => whnf) | (intro b h N; replace H := Hp.new H N; clear N; conv => whnf) | (refine Drawn.mk (by kernel_rfl) ?_; conv => whnf) | (refine FillK.row rfl ?_; conv => whnf) | (refine FillK.lit rfl ?_; conv => whnf) | (refine WrapK.i64 (by omega) (by omega) ?_; conv => whnf) | (refine WrapK.u64 (by omega) (by omega) ?_; conv => whnf) | (refine WrapK.u32 (by omega) (by omega) ?_; conv => whnf) | (refine WrapK.u8 (by omega) (by omega) ?_; conv => whnf) | (refine iteT (by omega) ?_; conv => whnf) | (refine iteF (by omega) ?_; conv => whnf) | (refine iteET (by omega) ?_; conv => whnf) | (refine iteEF (by omega) ?_; conv => whnf) | (refine iteNT (by omega) ?_; conv => whnf) | (refine iteNF (by omega) ?_; conv => whnf))
    refine ⟨Nat, [2, 3, 7, 8, 9, 10, 11, 70], fun i => [(71, .int .i64 (i : Nat)), (14, .int .i64 (l.step t i))], fun i h' => i ≤ M ∧ Hp h0 h' [Res.ob g (.cells (l.cells (.slice (some ⟨bb, oo, none⟩) l.es.length c)).toArray 65 (0, 0))], fun i => M - i, ?_⟩
    conv => whnf
    refine ⟨⟨0, ⟨rfl, rfl, trivial⟩, by omega, H⟩, ?_⟩
    clear H
    rintro i h7 ⟨iA, H⟩
    have hst := step_big ok ⟨t0, by omega⟩ (i := i) (by omega)
    by_cases ci : i < M
    · have hst2 := step_big ok ⟨t0, by omega⟩ (i := i + 1) (by omega)
      have hlt := step_lt ok t (show i < i + 1 by omega)
      conv => whnf
      repeat (first | (refine cnd_intro (by first | (simp; done) | (simp; omega) | omega | (simp only [Bool.and_eq_true, decide_eq_true_eq]; omega)) ?_; conv => whnf) | (refine Hp.ld H 0 rfl rfl ?_; conv => whnf) | (refine Hp.ld H 1 rfl rfl ?_; conv => whnf) | (refine Hp.ld H 2 rfl rfl ?_; conv => whnf) | (refine Hp.ld H 3 rfl rfl ?_; conv => whnf) | (refine Hp.ld H 4 rfl rfl ?_; conv => whnf) | (refine Hp.ld H 5 rfl rfl ?_; conv => whnf) | (refine Hp.st H 0 rfl rfl rfl rfl rfl ?_; intro h H; conv => whnf) | (refine Hp.st H 1 rfl rfl rfl rfl rfl ?_; intro h H; conv => whnf) | (refine Hp.st H 2 rfl rfl rfl rfl rfl ?_; intro h H; conv => whnf) | (refine Hp.st H 3 rfl rfl rfl rfl rfl ?_; intro h H; conv => whnf) | (refine Hp.st H 4 rfl rfl rfl rfl rfl ?_; intro h H; conv => whnf) | (refine Hp.st H 5 rfl rfl rfl rfl rfl ?_; intro h H; conv => whnf) | (intro b h N; replace H := Hp.new H N; clear N; conv => whnf) | (refine Drawn.mk (by kernel_rfl) ?_; conv => whnf) | (refine FillK.row rfl ?_; conv => whnf) | (refine FillK.lit rfl ?_; conv => whnf) | (refine WrapK.i64 (by omega) (by omega) ?_; conv => whnf) | (refine WrapK.u64 (by omega) (by omega) ?_; conv => whnf) | (refine WrapK.u32 (by omega) (by omega) ?_; conv => whnf) | (refine WrapK.u8 (by omega) (by omega) ?_; conv => whnf) | (refine iteT (by omega) ?_; conv => whnf) | (refine iteF (by omega) ?_; conv => whnf) | (refine iteET (by omega) ?_; conv => whnf) | (refine iteEF (by omega) ?_; conv => whnf) | (refine iteNT (by omega) ?_; conv => whnf) | (refine iteNF (by omega) ?_; conv => whnf))
      refine CallK.mono (refState_call _ l _ (l.step t i) (hs.keep H.keep) ok ⟨hst.1, by omega⟩) ?_
      rintro _ h8 ⟨k8, rfl⟩
      replace H := H.and k8
      obtain ⟨o, ho⟩ : ∃ o, pF l k (l.step t i) = o := ⟨_, rfl⟩
      have hu := hU i ci o ho
      have hf := hF i ci o ho
      have ho2 : (bAnd .i64 (l.state (l.step t i)) (bShl .i64 1 (k : Int)) != 0) = o := ho
      have hnx : l.next (l.step t i) = l.step t (i + 1) := rfl
      clear ho hU hF hU2 hF2
      conv => whnf
      rw [ho2]
      conv => whnf
      repeat (first | (refine cnd_intro (by first | (simp; done) | (simp; omega) | omega | (simp only [Bool.and_eq_true, decide_eq_true_eq]; omega)) ?_; conv => whnf) | (refine Hp.ld H 0 rfl rfl ?_; conv => whnf) | (refine Hp.ld H 1 rfl rfl ?_; conv => whnf) | (refine Hp.ld H 2 rfl rfl ?_; conv => whnf) | (refine Hp.ld H 3 rfl rfl ?_; conv => whnf) | (refine Hp.ld H 4 rfl rfl ?_; conv => whnf) | (refine Hp.ld H 5 rfl rfl ?_; conv => whnf) | (refine Hp.st H 0 rfl rfl rfl rfl rfl ?_; intro h H; conv => whnf) | (refine Hp.st H 1 rfl rfl rfl rfl rfl ?_; intro h H; conv => whnf) | (refine Hp.st H 2 rfl rfl rfl rfl rfl ?_; intro h H; conv => whnf) | (refine Hp.st H 3 rfl rfl rfl rfl rfl ?_; intro h H; conv => whnf) | (refine Hp.st H 4 rfl rfl rfl rfl rfl ?_; intro h H; conv => whnf) | (refine Hp.st H 5 rfl rfl rfl rfl rfl ?_; intro h H; conv => whnf) | (intro b h N; replace H := Hp.new H N; clear N; conv => whnf) | (refine Drawn.mk (by kernel_rfl) ?_; conv => whnf) | (refine FillK.row rfl ?_; conv => whnf) | (refine FillK.lit rfl ?_; conv => whnf) | (refine WrapK.i64 (by omega) (by omega) ?_; conv => whnf) | (refine WrapK.u64 (by omega) (by omega) ?_; conv => whnf) | (refine WrapK.u32 (by omega) (by omega) ?_; conv => whnf) | (refine WrapK.u8 (by omega) (by omega) ?_; conv => whnf) | (refine iteT (by omega) ?_; conv => whnf) | (refine iteF (by omega) ?_; conv => whnf) | (refine iteET (by omega) ?_; conv => whnf) | (refine iteEF (by omega) ?_; conv => whnf) | (refine iteNT (by omega) ?_; conv => whnf) | (refine iteNF (by omega) ?_; conv => whnf))
      refine CallK.mono (refNext_call _ l _ (l.step t i) (hs.keep H.keep) ok ⟨hst.1, by omega⟩) ?_
      rintro _ h9 ⟨k9, rfl⟩
      replace H := H.and k9
      rw [hnx]
      clear hnx ho2
      generalize hy : l.step t (i + 1) = y at *
      generalize l.step t i = x at *
      cases o
      · rcases hu with ⟨hu, _⟩ | ⟨_, hu⟩ | hu
        · cases hu
        · rcases hf with ⟨_, hf | hf⟩ | ⟨hf, _⟩ | hf
          · conv => whnf
            repeat (first | (refine iteT (by omega) ?_; conv => whnf) | (refine iteF (by omega) ?_; conv => whnf) | (refine iteET (by omega) ?_; conv => whnf) | (refine iteEF (by omega) ?_; conv => whnf) | (refine iteNT (by omega) ?_; conv => whnf) | (refine iteNF (by omega) ?_; conv => whnf) | (refine WrapK.i64 (by omega) (by omega) ?_; conv => whnf) | (refine Hp.ld H 0 rfl rfl ?_; conv => whnf))
            exact ⟨i + 1, ⟨(by first | rfl | (show Value.int .i64 _ = _; congr 1; omega) | (show Value.int .i64 _ = _; rw [wrap64_id (by omega) (by omega)]; first | rfl | (congr 1; omega))), by rw [hy]; rfl, trivial⟩, (by repeat (first | exact trivial | refine ⟨rfl, ?_⟩)), ⟨by omega, H⟩, by show M - (i + 1) < M - i; omega⟩
          · conv => whnf
            repeat (first | (refine iteT (by omega) ?_; conv => whnf) | (refine iteF (by omega) ?_; conv => whnf) | (refine iteET (by omega) ?_; conv => whnf) | (refine iteEF (by omega) ?_; conv => whnf) | (refine iteNT (by omega) ?_; conv => whnf) | (refine iteNF (by omega) ?_; conv => whnf) | (refine WrapK.i64 (by omega) (by omega) ?_; conv => whnf) | (refine Hp.ld H 0 rfl rfl ?_; conv => whnf))
            exact ⟨i + 1, ⟨(by first | rfl | (show Value.int .i64 _ = _; congr 1; omega) | (show Value.int .i64 _ = _; rw [wrap64_id (by omega) (by omega)]; first | rfl | (congr 1; omega))), by rw [hy]; rfl, trivial⟩, (by repeat (first | exact trivial | refine ⟨rfl, ?_⟩)), ⟨by omega, H⟩, by show M - (i + 1) < M - i; omega⟩
          · cases hf
          · conv => whnf
            repeat (first | (refine iteT (by omega) ?_; conv => whnf) | (refine iteF (by omega) ?_; conv => whnf) | (refine iteET (by omega) ?_; conv => whnf) | (refine iteEF (by omega) ?_; conv => whnf) | (refine iteNT (by omega) ?_; conv => whnf) | (refine iteNF (by omega) ?_; conv => whnf) | (refine WrapK.i64 (by omega) (by omega) ?_; conv => whnf) | (refine Hp.ld H 0 rfl rfl ?_; conv => whnf))
            exact ⟨i + 1, ⟨(by first | rfl | (show Value.int .i64 _ = _; congr 1; omega) | (show Value.int .i64 _ = _; rw [wrap64_id (by omega) (by omega)]; first | rfl | (congr 1; omega))), by rw [hy]; rfl, trivial⟩, (by repeat (first | exact trivial | refine ⟨rfl, ?_⟩)), ⟨by omega, H⟩, by show M - (i + 1) < M - i; omega⟩
        · rcases hf with ⟨_, hf | hf⟩ | ⟨hf, _⟩ | hf
          · conv => whnf
            repeat (first | (refine iteT (by omega) ?_; conv => whnf) | (refine iteF (by omega) ?_; conv => whnf) | (refine iteET (by omega) ?_; conv => whnf) | (refine iteEF (by omega) ?_; conv => whnf) | (refine iteNT (by omega) ?_; conv => whnf) | (refine iteNF (by omega) ?_; conv => whnf) | (refine WrapK.i64 (by omega) (by omega) ?_; conv => whnf) | (refine Hp.ld H 0 rfl rfl ?_; conv => whnf))
            exact ⟨i + 1, ⟨(by first | rfl | (show Value.int .i64 _ = _; congr 1; omega) | (show Value.int .i64 _ = _; rw [wrap64_id (by omega) (by omega)]; first | rfl | (congr 1; omega))), by rw [hy]; rfl, trivial⟩, (by repeat (first | exact trivial | refine ⟨rfl, ?_⟩)), ⟨by omega, H⟩, by show M - (i + 1) < M - i; omega⟩
          · conv => whnf
            repeat (first | (refine iteT (by omega) ?_; conv => whnf) | (refine iteF (by omega) ?_; conv => whnf) | (refine iteET (by omega) ?_; conv => whnf) | (refine iteEF (by omega) ?_; conv => whnf) | (refine iteNT (by omega) ?_; conv => whnf) | (refine iteNF (by omega) ?_; conv => whnf) | (refine WrapK.i64 (by omega) (by omega) ?_; conv => whnf) | (refine Hp.ld H 0 rfl rfl ?_; conv => whnf))
            exact ⟨i + 1, ⟨(by first | rfl | (show Value.int .i64 _ = _; congr 1; omega) | (show Value.int .i64 _ = _; rw [wrap64_id (by omega) (by omega)]; first | rfl | (congr 1; omega))), by rw [hy]; rfl, trivial⟩, (by repeat (first | exact trivial | refine ⟨rfl, ?_⟩)), ⟨by omega, H⟩, by show M - (i + 1) < M - i; omega⟩
          · cases hf
          · conv => whnf
            repeat (first | (refine iteT (by omega) ?_; conv => whnf) | (refine iteF (by omega) ?_; conv => whnf) | (refine iteET (by omega) ?_; conv => whnf) | (refine iteEF (by omega) ?_; conv => whnf) | (refine iteNT (by omega) ?_; conv => whnf) | (refine iteNF (by omega) ?_; conv => whnf) | (refine WrapK.i64 (by omega) (by omega) ?_; conv => whnf) | (refine Hp.ld H 0 rfl rfl ?_; conv => whnf))
            exact ⟨i + 1, ⟨(by first | rfl | (show Value.int .i64 _ = _; congr 1; omega) | (show Value.int .i64 _ = _; rw [wrap64_id (by omega) (by omega)]; first | rfl | (congr 1; omega))), by rw [hy]; rfl, trivial⟩, (by repeat (first | exact trivial | refine ⟨rfl, ?_⟩)), ⟨by omega, H⟩, by show M - (i + 1) < M - i; omega⟩
      · rcases hf with ⟨hf, _⟩ | ⟨_, hf⟩ | hf
        · cases hf
        · rcases hu with ⟨_, hu | hu⟩ | ⟨hu, _⟩ | hu
          · conv => whnf
            repeat (first | (refine iteT (by omega) ?_; conv => whnf) | (refine iteF (by omega) ?_; conv => whnf) | (refine iteET (by omega) ?_; conv => whnf) | (refine iteEF (by omega) ?_; conv => whnf) | (refine iteNT (by omega) ?_; conv => whnf) | (refine iteNF (by omega) ?_; conv => whnf) | (refine WrapK.i64 (by omega) (by omega) ?_; conv => whnf) | (refine Hp.ld H 0 rfl rfl ?_; conv => whnf))
            exact ⟨i + 1, ⟨(by first | rfl | (show Value.int .i64 _ = _; congr 1; omega) | (show Value.int .i64 _ = _; rw [wrap64_id (by omega) (by omega)]; first | rfl | (congr 1; omega))), by rw [hy]; rfl, trivial⟩, (by repeat (first | exact trivial | refine ⟨rfl, ?_⟩)), ⟨by omega, H⟩, by show M - (i + 1) < M - i; omega⟩
          · conv => whnf
            repeat (first | (refine iteT (by omega) ?_; conv => whnf) | (refine iteF (by omega) ?_; conv => whnf) | (refine iteET (by omega) ?_; conv => whnf) | (refine iteEF (by omega) ?_; conv => whnf) | (refine iteNT (by omega) ?_; conv => whnf) | (refine iteNF (by omega) ?_; conv => whnf) | (refine WrapK.i64 (by omega) (by omega) ?_; conv => whnf) | (refine Hp.ld H 0 rfl rfl ?_; conv => whnf))
            exact ⟨i + 1, ⟨(by first | rfl | (show Value.int .i64 _ = _; congr 1; omega) | (show Value.int .i64 _ = _; rw [wrap64_id (by omega) (by omega)]; first | rfl | (congr 1; omega))), by rw [hy]; rfl, trivial⟩, (by repeat (first | exact trivial | refine ⟨rfl, ?_⟩)), ⟨by omega, H⟩, by show M - (i + 1) < M - i; omega⟩
          · cases hu
          · conv => whnf
            repeat (first | (refine iteT (by omega) ?_; conv => whnf) | (refine iteF (by omega) ?_; conv => whnf) | (refine iteET (by omega) ?_; conv => whnf) | (refine iteEF (by omega) ?_; conv => whnf) | (refine iteNT (by omega) ?_; conv => whnf) | (refine iteNF (by omega) ?_; conv => whnf) | (refine WrapK.i64 (by omega) (by omega) ?_; conv => whnf) | (refine Hp.ld H 0 rfl rfl ?_; conv => whnf))
            exact ⟨i + 1, ⟨(by first | rfl | (show Value.int .i64 _ = _; congr 1; omega) | (show Value.int .i64 _ = _; rw [wrap64_id (by omega) (by omega)]; first | rfl | (congr 1; omega))), by rw [hy]; rfl, trivial⟩, (by repeat (first | exact trivial | refine ⟨rfl, ?_⟩)), ⟨by omega, H⟩, by show M - (i + 1) < M - i; omega⟩
        · rcases hu with ⟨_, hu | hu⟩ | ⟨hu, _⟩ | hu
          · conv => whnf
            repeat (first | (refine iteT (by omega) ?_; conv => whnf) | (refine iteF (by omega) ?_; conv => whnf) | (refine iteET (by omega) ?_; conv => whnf) | (refine iteEF (by omega) ?_; conv => whnf) | (refine iteNT (by omega) ?_; conv => whnf) | (refine iteNF (by omega) ?_; conv => whnf) | (refine WrapK.i64 (by omega) (by omega) ?_; conv => whnf) | (refine Hp.ld H 0 rfl rfl ?_; conv => whnf))
            exact ⟨i + 1, ⟨(by first | rfl | (show Value.int .i64 _ = _; congr 1; omega) | (show Value.int .i64 _ = _; rw [wrap64_id (by omega) (by omega)]; first | rfl | (congr 1; omega))), by rw [hy]; rfl, trivial⟩, (by repeat (first | exact trivial | refine ⟨rfl, ?_⟩)), ⟨by omega, H⟩, by show M - (i + 1) < M - i; omega⟩
          · conv => whnf
            repeat (first | (refine iteT (by omega) ?_; conv => whnf) | (refine iteF (by omega) ?_; conv => whnf) | (refine iteET (by omega) ?_; conv => whnf) | (refine iteEF (by omega) ?_; conv => whnf) | (refine iteNT (by omega) ?_; conv => whnf) | (refine iteNF (by omega) ?_; conv => whnf) | (refine WrapK.i64 (by omega) (by omega) ?_; conv => whnf) | (refine Hp.ld H 0 rfl rfl ?_; conv => whnf))
            exact ⟨i + 1, ⟨(by first | rfl | (show Value.int .i64 _ = _; congr 1; omega) | (show Value.int .i64 _ = _; rw [wrap64_id (by omega) (by omega)]; first | rfl | (congr 1; omega))), by rw [hy]; rfl, trivial⟩, (by repeat (first | exact trivial | refine ⟨rfl, ?_⟩)), ⟨by omega, H⟩, by show M - (i + 1) < M - i; omega⟩
          · cases hu
          · conv => whnf
            repeat (first | (refine iteT (by omega) ?_; conv => whnf) | (refine iteF (by omega) ?_; conv => whnf) | (refine iteET (by omega) ?_; conv => whnf) | (refine iteEF (by omega) ?_; conv => whnf) | (refine iteNT (by omega) ?_; conv => whnf) | (refine iteNF (by omega) ?_; conv => whnf) | (refine WrapK.i64 (by omega) (by omega) ?_; conv => whnf) | (refine Hp.ld H 0 rfl rfl ?_; conv => whnf))
            exact ⟨i + 1, ⟨(by first | rfl | (show Value.int .i64 _ = _; congr 1; omega) | (show Value.int .i64 _ = _; rw [wrap64_id (by omega) (by omega)]; first | rfl | (congr 1; omega))), by rw [hy]; rfl, trivial⟩, (by repeat (first | exact trivial | refine ⟨rfl, ?_⟩)), ⟨by omega, H⟩, by show M - (i + 1) < M - i; omega⟩
    clear hU hF
    have evU : U ≥ 0 → ev = false := fun h => by
      cases hev : ev with
      | false => rfl
      | true =>
        rw [hev] at iE
        have hx := ever_until ok (k := k) (by omega) iE.symm U
        rcases hU2 with h2 | ⟨_, _, h2⟩
        · omega
        · rw [hx] at h2; cases h2
    have nvF : F ≥ 0 → l.base ≤ t → nv = false := fun h hb => by
      cases hnv : nv with
      | false => rfl
      | true =>
        rw [hnv] at iN
        rcases hF2 with h2 | ⟨h3, _, h2⟩
        · omega
        · have hx := never_from ok (k := k) iN.symm (u := F) (by omega)
          rw [hx] at h2; cases h2
    have wU : pU l k U = true → (bAnd .i64 (l.state U) (bShl .i64 1 (k : Int)) != 0) = false := fun h => by rw [bne_of_beq (show (bAnd .i64 (l.state U) (bShl .i64 1 (k : Int)) == 0) = true from h)]; rfl
    have wF : pF l k F = true → (bAnd .i64 (l.state F) (bShl .i64 1 (k : Int)) == 0) = false := fun h => by
      cases hx : (bAnd .i64 (l.state F) (bShl .i64 1 (k : Int)) == 0) with
      | false => rfl
      | true =>
        have h : (bAnd .i64 (l.state F) (bShl .i64 1 (k : Int)) != 0) = true := h
        rw [bne_of_beq hx] at h
        cases h
    clear iE iN
    rcases hU2 with hu | ⟨u1, u2, u3⟩
    · rcases hF2 with hf2 | ⟨f1, f2, f3⟩
      · conv => whnf
        repeat (first | (refine iteT (by omega) ?_; conv => whnf) | (refine iteF (by omega) ?_; conv => whnf) | (refine iteET (by omega) ?_; conv => whnf) | (refine iteEF (by omega) ?_; conv => whnf) | (refine iteNT (by omega) ?_; conv => whnf) | (refine iteNF (by omega) ?_; conv => whnf) | (refine WrapK.i64 (by omega) (by omega) ?_; conv => whnf) | (refine Hp.ld H 0 rfl rfl ?_; conv => whnf))
        cases ev <;> cases nv <;> by_cases tb : t < l.base
        all_goals try (exfalso; have hx := evU (by omega); cases hx; done)
        all_goals try (exfalso; have hx := nvF (by omega) (by omega); cases hx; done)
        all_goals
          conv => whnf
          repeat (first | (refine iteT (by omega) ?_; conv => whnf) | (refine iteF (by omega) ?_; conv => whnf) | (refine iteET (by omega) ?_; conv => whnf) | (refine iteEF (by omega) ?_; conv => whnf) | (refine iteNT (by omega) ?_; conv => whnf) | (refine iteNF (by omega) ?_; conv => whnf) | (refine WrapK.i64 (by omega) (by omega) ?_; conv => whnf) | (refine Hp.ld H 0 rfl rfl ?_; conv => whnf))
          first
          | exact ⟨rfl, H.keep⟩
          | exact ⟨by rw [tup_one, decide_eq_true (by omega)], H.keep⟩
      · conv => whnf
        repeat (first | (refine iteT (by omega) ?_; conv => whnf) | (refine iteF (by omega) ?_; conv => whnf) | (refine iteET (by omega) ?_; conv => whnf) | (refine iteEF (by omega) ?_; conv => whnf) | (refine iteNT (by omega) ?_; conv => whnf) | (refine iteNF (by omega) ?_; conv => whnf) | (refine WrapK.i64 (by omega) (by omega) ?_; conv => whnf) | (refine Hp.ld H 0 rfl rfl ?_; conv => whnf))
        refine CallK.mono (refState_call _ l _ F (hs.keep H.keep) ok ⟨by omega, by omega⟩) ?_
        rintro _ h9 ⟨k9, rfl⟩
        replace H := H.and k9
        conv => whnf
        rw [wF f3]
        cases ev <;> cases nv <;> by_cases tb : t < l.base
        all_goals try (exfalso; have hx := evU (by omega); cases hx; done)
        all_goals try (exfalso; have hx := nvF (by omega) (by omega); cases hx; done)
        all_goals
          conv => whnf
          repeat (first | (refine iteT (by omega) ?_; conv => whnf) | (refine iteF (by omega) ?_; conv => whnf) | (refine iteET (by omega) ?_; conv => whnf) | (refine iteEF (by omega) ?_; conv => whnf) | (refine iteNT (by omega) ?_; conv => whnf) | (refine iteNF (by omega) ?_; conv => whnf) | (refine WrapK.i64 (by omega) (by omega) ?_; conv => whnf) | (refine Hp.ld H 0 rfl rfl ?_; conv => whnf))
          first
          | exact ⟨rfl, H.keep⟩
          | exact ⟨by rw [tup_one, decide_eq_true (by omega)], H.keep⟩
    · conv => whnf
      repeat (first | (refine iteT (by omega) ?_; conv => whnf) | (refine iteF (by omega) ?_; conv => whnf) | (refine iteET (by omega) ?_; conv => whnf) | (refine iteEF (by omega) ?_; conv => whnf) | (refine iteNT (by omega) ?_; conv => whnf) | (refine iteNF (by omega) ?_; conv => whnf) | (refine WrapK.i64 (by omega) (by omega) ?_; conv => whnf) | (refine Hp.ld H 0 rfl rfl ?_; conv => whnf))
      refine CallK.mono (refState_call _ l _ U (hs.keep H.keep) ok ⟨by omega, by omega⟩) ?_
      rintro _ h8 ⟨k8, rfl⟩
      replace H := H.and k8
      conv => whnf
      rw [wU u3]
      rcases hF2 with hf2 | ⟨f1, f2, f3⟩
      · conv => whnf
        repeat (first | (refine iteT (by omega) ?_; conv => whnf) | (refine iteF (by omega) ?_; conv => whnf) | (refine iteET (by omega) ?_; conv => whnf) | (refine iteEF (by omega) ?_; conv => whnf) | (refine iteNT (by omega) ?_; conv => whnf) | (refine iteNF (by omega) ?_; conv => whnf) | (refine WrapK.i64 (by omega) (by omega) ?_; conv => whnf) | (refine Hp.ld H 0 rfl rfl ?_; conv => whnf))
        cases ev <;> cases nv <;> by_cases tb : t < l.base
        all_goals try (exfalso; have hx := evU (by omega); cases hx; done)
        all_goals try (exfalso; have hx := nvF (by omega) (by omega); cases hx; done)
        all_goals
          conv => whnf
          repeat (first | (refine iteT (by omega) ?_; conv => whnf) | (refine iteF (by omega) ?_; conv => whnf) | (refine iteET (by omega) ?_; conv => whnf) | (refine iteEF (by omega) ?_; conv => whnf) | (refine iteNT (by omega) ?_; conv => whnf) | (refine iteNF (by omega) ?_; conv => whnf) | (refine WrapK.i64 (by omega) (by omega) ?_; conv => whnf) | (refine Hp.ld H 0 rfl rfl ?_; conv => whnf))
          first
          | exact ⟨rfl, H.keep⟩
          | exact ⟨by rw [tup_one, decide_eq_true (by omega)], H.keep⟩
      · conv => whnf
        repeat (first | (refine iteT (by omega) ?_; conv => whnf) | (refine iteF (by omega) ?_; conv => whnf) | (refine iteET (by omega) ?_; conv => whnf) | (refine iteEF (by omega) ?_; conv => whnf) | (refine iteNT (by omega) ?_; conv => whnf) | (refine iteNF (by omega) ?_; conv => whnf) | (refine WrapK.i64 (by omega) (by omega) ?_; conv => whnf) | (refine Hp.ld H 0 rfl rfl ?_; conv => whnf))
        refine CallK.mono (refState_call _ l _ F (hs.keep H.keep) ok ⟨by omega, by omega⟩) ?_
        rintro _ h9 ⟨k9, rfl⟩
        replace H := H.and k9
        conv => whnf
        rw [wF f3]
        cases ev <;> cases nv <;> by_cases tb : t < l.base
        all_goals try (exfalso; have hx := evU (by omega); cases hx; done)
        all_goals try (exfalso; have hx := nvF (by omega) (by omega); cases hx; done)
        all_goals
          conv => whnf
          repeat (first | (refine iteT (by omega) ?_; conv => whnf) | (refine iteF (by omega) ?_; conv => whnf) | (refine iteET (by omega) ?_; conv => whnf) | (refine iteEF (by omega) ?_; conv => whnf) | (refine iteNT (by omega) ?_; conv => whnf) | (refine iteNF (by omega) ?_; conv => whnf) | (refine WrapK.i64 (by omega) (by omega) ?_; conv => whnf) | (refine Hp.ld H 0 rfl rfl ?_; conv => whnf))
          first
          | exact ⟨rfl, H.keep⟩
          | exact ⟨by rw [tup_one, decide_eq_true (by omega)], H.keep⟩

end Go.Proofs.Ytpcjdcpfbpdcfaa
