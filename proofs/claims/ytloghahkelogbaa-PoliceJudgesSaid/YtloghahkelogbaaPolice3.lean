import Derived.Test.YtloghahkelogbaaPolice2
import Derived.Test.YtloghahkelogbaaMeter
namespace Go.Proofs.Ytloghahkelogbaa
open Go.Vc
set_option maxRecDepth 10000
set_option maxHeartbeats 8000000

/-! ### police: meters -/

def Res.mss (X : List (Nat × MS)) : Res := ⟨fun k => ∃ m, (k, m) ∈ X, fun h => ∀ x ∈ X, ∃ T, h[x.1]? = some (.cells x.2.cells.toArray T (0, 0)),
  fun a k hk => by
    obtain ⟨m, hm⟩ := hk
    obtain ⟨T, hT⟩ := a _ hm
    exact lt_of_get hT,
  fun a hk x hx => by
    obtain ⟨T, hT⟩ := a x hx
    exact ⟨T, (hk x.1 ⟨x.2, hx⟩).trans hT⟩⟩

theorem Hp.no_mss {h0 h : Heap} {rs : List Res} (H : Hp h0 h rs) : Hp h0 h (Res.mss [] :: rs) :=
  H.more (Keep.refl _ _) (fun x hx => by simp at hx) fun k hk => by
    obtain ⟨m, hm⟩ := hk
    simp at hm

theorem Hp.mss_new {h0 h h' : Heap} {rs : List Res} (H : Hp h0 h rs) (i : Nat) {X : List (Nat × MS)} (hn : nth rs i = some (Res.mss X)) {g : Nat} {T : TypeId} {m : MS} (k : Keep (fun _ => False) h h') (hg : h.size ≤ g) (hc : h'[g]? = some (.cells m.cells.toArray T (0, 0))) : Hp h0 h' (setN rs i (Res.mss ((g, m) :: X))) := by
  have ha : (Res.mss X).at_ h := H.get i hn
  have ha2 : (Res.mss X).at_ h' := (H.and k).get i hn
  refine H.change i hn ⟨k.size, fun b hb _ => k.old b hb (fun f => f)⟩ (fun x hx => ?_) (fun j hj => ?_)
  · rcases List.mem_cons.1 hx with rfl | hx
    · exact ⟨T, hc⟩
    · exact ha2 x hx
  · obtain ⟨m', hm⟩ := hj
    rcases List.mem_cons.1 hm with e | hm
    · injection e with e _
      exact .inr (by omega)
    · exact .inl ⟨m', hm⟩

theorem Hp.mss_set {h0 h h' : Heap} {rs : List Res} (H : Hp h0 h rs) (i : Nat) {X : List (Nat × MS)} (hn : nth rs i = some (Res.mss X)) {g : Nat} {T : TypeId} {m m' : MS} (hm : (g, m) ∈ X) (k : Keep (· = g) h h') (hc : h'[g]? = some (.cells m'.cells.toArray T (0, 0))) : Hp h0 h' (setN rs i (Res.mss (X.map fun x => if x.1 = g then (g, m') else x))) := by
  have ha : (Res.mss X).at_ h := H.get i hn
  refine H.change i hn ⟨k.size, fun b hb hbn => k.old b hb fun e => hbn ⟨m, by rw [e]; exact hm⟩⟩ (fun x hx => ?_) (fun j hj => ?_)
  · obtain ⟨y, hy, rfl⟩ := List.mem_map.1 hx
    split
    · exact ⟨T, hc⟩
    · rename_i c
      obtain ⟨T', hT⟩ := ha y hy
      exact ⟨T', (k.old y.1 (lt_of_get hT) c).trans hT⟩
  · obtain ⟨m2, hm2⟩ := hj
    obtain ⟨y, hy, e⟩ := List.mem_map.1 hm2
    split at e
    · injection e with e _
      subst e
      exact .inl ⟨m, hm⟩
    · subst e
      exact .inl ⟨_, hy⟩

def MS.start (c0 c1 c2 c3 : Int) : MS := ⟨c0, c1, c2, c3, c1 * 8000000000, c3 * 8000000000, 0, 0, 0, 0⟩

/-- What setting a meter does. -/
def SetM (n c0 c1 c2 c3 : Int) (M : MM) (X : List (Nat × MS)) (e : Nat) (M' : MM) (X' : List (Nat × MS)) : Prop :=
  ((n < 0 ∨ n ≥ 32) ∧ e = 1 ∧ M' = M ∧ X' = X) ∨ (0 ≤ n ∧ n < 32 ∧ ¬ CfgOk c0 c1 c2 c3 ∧ e = 30 ∧ M' = M ∧ X' = X) ∨
    (0 ≤ n ∧ n < 32 ∧ CfgOk c0 c1 c2 c3 ∧ e = 0 ∧ ∃ b, (∀ x ∈ X, x.1 ≠ b) ∧ M' = mput n b M ∧ X' = (b, MS.start c0 c1 c2 c3) :: X)

theorem setmeter_call {h0 h : Heap} {rs : List Res} {g : Nat} {s : Value} {fs : List Flt} {bR bV bM : Nat} {k0 k1 k2 k3 : Int} {R : RM} {V : VM} {M : MM} {X : List (Nat × MS)} (H : Hp h0 h (Res.pol g s fs bR bV bM k0 k1 k2 k3 :: Res.mp pI Rul.enc bR R :: Res.mp pI Vlv.enc bV V :: Res.mp pI ptrV bM M :: Res.mss X :: rs)) (n c0 c1 c2 c3 : Int) :
    CallK Try.prog 11 #[.pointer (some ⟨g, 0, none⟩), .int .i64 n, .agg #[.int .i64 c0, .int .i64 c1, .int .i64 c2, .int .i64 c3]] h fun v h' => ∃ (e : Nat) (M' : MM) (X' : List (Nat × MS)), SetM n c0 c1 c2 c3 M X e M' X' ∧ v = .int .i64 (e : Nat) ∧
      Hp h0 h' (Res.pol g s fs bR bV bM k0 k1 k2 k3 :: Res.mp pI Rul.enc bR R :: Res.mp pI Vlv.enc bV V :: Res.mp pI ptrV bM M' :: Res.mss X' :: rs) := by
  refine CallK.of_vc EW_ok [0, 1, 2, 5, 6, 7, 8, 14, 21] Try.func11 rfl (Nat.le_of_ble_eq_true rfl) ?_
  conv => whnf
  intro g5 h1 N
  replace H := H.new N
  clear N
  by_cases a1 : n < 0
  · conv => whnf
    repeat ((first | refine cnd_intro (by first | (simp; done) | (simp; omega) | omega | (simp only [Bool.and_eq_true, decide_eq_true_eq]; omega)) ?_ | refine Hp.ld H 0 rfl rfl ?_ | refine Hp.ld H 1 rfl rfl ?_ | refine Hp.ld H 2 rfl rfl ?_ | refine Hp.ld H 3 rfl rfl ?_ | refine Hp.ld H 4 rfl rfl ?_ | refine Hp.ld H 5 rfl rfl ?_ | (refine Hp.st H 0 rfl rfl rfl rfl rfl ?_; intro h H) | (refine Hp.st H 1 rfl rfl rfl rfl rfl ?_; intro h H) | (refine Hp.st H 2 rfl rfl rfl rfl rfl ?_; intro h H) | (refine Hp.st H 3 rfl rfl rfl rfl rfl ?_; intro h H) | (refine Hp.st H 4 rfl rfl rfl rfl rfl ?_; intro h H) | (refine Hp.st H 5 rfl rfl rfl rfl rfl ?_; intro h H) | (intro b h N; replace H := Hp.new H N; clear N) | refine Drawn.mk (by kernel_rfl) ?_ | refine FillK.row rfl ?_ | refine FillK.lit rfl ?_ | refine WrapK.i64 (by omega) (by omega) ?_ | refine WrapK.u64 (by omega) (by omega) ?_ | refine WrapK.u32 (by omega) (by omega) ?_ | refine WrapK.u8 (by omega) (by omega) ?_ | refine iteT (by omega) ?_ | refine iteF (by omega) ?_ | refine iteET (by omega) ?_ | refine iteEF (by omega) ?_ | refine iteNT (by omega) ?_ | refine iteNF (by omega) ?_); conv => whnf)
    exact ⟨1, M, X, .inl ⟨.inl a1, rfl, rfl, rfl⟩, rfl, H.drop 0⟩
  by_cases a2 : n ≥ 32
  · conv => whnf
    repeat ((first | refine cnd_intro (by first | (simp; done) | (simp; omega) | omega | (simp only [Bool.and_eq_true, decide_eq_true_eq]; omega)) ?_ | refine Hp.ld H 0 rfl rfl ?_ | refine Hp.ld H 1 rfl rfl ?_ | refine Hp.ld H 2 rfl rfl ?_ | refine Hp.ld H 3 rfl rfl ?_ | refine Hp.ld H 4 rfl rfl ?_ | refine Hp.ld H 5 rfl rfl ?_ | (refine Hp.st H 0 rfl rfl rfl rfl rfl ?_; intro h H) | (refine Hp.st H 1 rfl rfl rfl rfl rfl ?_; intro h H) | (refine Hp.st H 2 rfl rfl rfl rfl rfl ?_; intro h H) | (refine Hp.st H 3 rfl rfl rfl rfl rfl ?_; intro h H) | (refine Hp.st H 4 rfl rfl rfl rfl rfl ?_; intro h H) | (refine Hp.st H 5 rfl rfl rfl rfl rfl ?_; intro h H) | (intro b h N; replace H := Hp.new H N; clear N) | refine Drawn.mk (by kernel_rfl) ?_ | refine FillK.row rfl ?_ | refine FillK.lit rfl ?_ | refine WrapK.i64 (by omega) (by omega) ?_ | refine WrapK.u64 (by omega) (by omega) ?_ | refine WrapK.u32 (by omega) (by omega) ?_ | refine WrapK.u8 (by omega) (by omega) ?_ | refine iteT (by omega) ?_ | refine iteF (by omega) ?_ | refine iteET (by omega) ?_ | refine iteEF (by omega) ?_ | refine iteNT (by omega) ?_ | refine iteNF (by omega) ?_); conv => whnf)
    exact ⟨1, M, X, .inl ⟨.inr a2, rfl, rfl, rfl⟩, rfl, H.drop 0⟩
  by_cases hc : CfgOk c0 c1 c2 c3
  · conv => whnf
    repeat ((first | refine cnd_intro (by first | (simp; done) | (simp; omega) | omega | (simp only [Bool.and_eq_true, decide_eq_true_eq]; omega)) ?_ | refine Hp.ld H 0 rfl rfl ?_ | refine Hp.ld H 1 rfl rfl ?_ | refine Hp.ld H 2 rfl rfl ?_ | refine Hp.ld H 3 rfl rfl ?_ | refine Hp.ld H 4 rfl rfl ?_ | refine Hp.ld H 5 rfl rfl ?_ | (refine Hp.st H 0 rfl rfl rfl rfl rfl ?_; intro h H) | (refine Hp.st H 1 rfl rfl rfl rfl rfl ?_; intro h H) | (refine Hp.st H 2 rfl rfl rfl rfl rfl ?_; intro h H) | (refine Hp.st H 3 rfl rfl rfl rfl rfl ?_; intro h H) | (refine Hp.st H 4 rfl rfl rfl rfl rfl ?_; intro h H) | (refine Hp.st H 5 rfl rfl rfl rfl rfl ?_; intro h H) | (intro b h N; replace H := Hp.new H N; clear N) | refine Drawn.mk (by kernel_rfl) ?_ | refine FillK.row rfl ?_ | refine FillK.lit rfl ?_ | refine WrapK.i64 (by omega) (by omega) ?_ | refine WrapK.u64 (by omega) (by omega) ?_ | refine WrapK.u32 (by omega) (by omega) ?_ | refine WrapK.u8 (by omega) (by omega) ?_ | refine iteT (by omega) ?_ | refine iteF (by omega) ?_ | refine iteET (by omega) ?_ | refine iteEF (by omega) ?_ | refine iteNT (by omega) ?_ | refine iteNF (by omega) ?_); conv => whnf)
    refine CallK.mono (new_ok_call c0 c1 c2 c3 _ hc) ?_
    rintro _ h2 ⟨b, T, rfl, kb, hb, hcb⟩
    have hfr : ∀ x ∈ X, x.1 ≠ b := fun x hx e => by
      have := (Res.mss X).lt (H.get 5 rfl) (k := x.1) ⟨x.2, hx⟩
      omega
    have H2 := Hp.mss_new H 5 rfl kb hb hcb
    clear H
    have H : Hp h0 h2 (Res.ob g5 (.cells #[.int .i64 c0, .int .i64 c1, .int .i64 c2, .int .i64 c3] 29 (0, 0)) :: Res.pol g s fs bR bV bM k0 k1 k2 k3 :: Res.mp pI Rul.enc bR R :: Res.mp pI Vlv.enc bV V :: Res.mp pI ptrV bM M :: Res.mss ((b, MS.start c0 c1 c2 c3) :: X) :: rs) := H2
    clear H2
    conv => whnf
    repeat ((first | refine cnd_intro (by first | (simp; done) | (simp; omega) | omega | (simp only [Bool.and_eq_true, decide_eq_true_eq]; omega)) ?_ | refine Hp.ld H 0 rfl rfl ?_ | refine Hp.ld H 1 rfl rfl ?_ | refine Hp.ld H 2 rfl rfl ?_ | refine Hp.ld H 3 rfl rfl ?_ | refine Hp.ld H 4 rfl rfl ?_ | refine Hp.ld H 5 rfl rfl ?_ | (refine Hp.st H 0 rfl rfl rfl rfl rfl ?_; intro h H) | (refine Hp.st H 1 rfl rfl rfl rfl rfl ?_; intro h H) | (refine Hp.st H 2 rfl rfl rfl rfl rfl ?_; intro h H) | (refine Hp.st H 3 rfl rfl rfl rfl rfl ?_; intro h H) | (refine Hp.st H 4 rfl rfl rfl rfl rfl ?_; intro h H) | (refine Hp.st H 5 rfl rfl rfl rfl rfl ?_; intro h H) | (intro b h N; replace H := Hp.new H N; clear N) | refine Drawn.mk (by kernel_rfl) ?_ | refine FillK.row rfl ?_ | refine FillK.lit rfl ?_ | refine WrapK.i64 (by omega) (by omega) ?_ | refine WrapK.u64 (by omega) (by omega) ?_ | refine WrapK.u32 (by omega) (by omega) ?_ | refine WrapK.u8 (by omega) (by omega) ?_ | refine iteT (by omega) ?_ | refine iteF (by omega) ?_ | refine iteET (by omega) ?_ | refine iteEF (by omega) ?_ | refine iteNT (by omega) ?_ | refine iteNF (by omega) ?_); conv => whnf)
    refine LdK.lit (pol_ob (i := 1) H rfl) rfl ?_
    conv => whnf
    repeat ((first | refine cnd_intro (by first | (simp; done) | (simp; omega) | omega | (simp only [Bool.and_eq_true, decide_eq_true_eq]; omega)) ?_ | refine Hp.ld H 0 rfl rfl ?_ | refine Hp.ld H 1 rfl rfl ?_ | refine Hp.ld H 2 rfl rfl ?_ | refine Hp.ld H 3 rfl rfl ?_ | refine Hp.ld H 4 rfl rfl ?_ | refine Hp.ld H 5 rfl rfl ?_ | (refine Hp.st H 0 rfl rfl rfl rfl rfl ?_; intro h H) | (refine Hp.st H 1 rfl rfl rfl rfl rfl ?_; intro h H) | (refine Hp.st H 2 rfl rfl rfl rfl rfl ?_; intro h H) | (refine Hp.st H 3 rfl rfl rfl rfl rfl ?_; intro h H) | (refine Hp.st H 4 rfl rfl rfl rfl rfl ?_; intro h H) | (refine Hp.st H 5 rfl rfl rfl rfl rfl ?_; intro h H) | (intro b h N; replace H := Hp.new H N; clear N) | refine Drawn.mk (by kernel_rfl) ?_ | refine FillK.row rfl ?_ | refine FillK.lit rfl ?_ | refine WrapK.i64 (by omega) (by omega) ?_ | refine WrapK.u64 (by omega) (by omega) ?_ | refine WrapK.u32 (by omega) (by omega) ?_ | refine WrapK.u8 (by omega) (by omega) ?_ | refine iteT (by omega) ?_ | refine iteF (by omega) ?_ | refine iteET (by omega) ?_ | refine iteEF (by omega) ?_ | refine iteNT (by omega) ?_ | refine iteNF (by omega) ?_); conv => whnf)
    refine Hp.mapPut EW_ok H 4 rfl pkey_ok (k := n) (a := b) rfl rfl rfl rfl rfl ?_
    clear H
    intro h3 H
    conv => whnf
    repeat ((first | refine cnd_intro (by first | (simp; done) | (simp; omega) | omega | (simp only [Bool.and_eq_true, decide_eq_true_eq]; omega)) ?_ | refine Hp.ld H 0 rfl rfl ?_ | refine Hp.ld H 1 rfl rfl ?_ | refine Hp.ld H 2 rfl rfl ?_ | refine Hp.ld H 3 rfl rfl ?_ | refine Hp.ld H 4 rfl rfl ?_ | refine Hp.ld H 5 rfl rfl ?_ | (refine Hp.st H 0 rfl rfl rfl rfl rfl ?_; intro h H) | (refine Hp.st H 1 rfl rfl rfl rfl rfl ?_; intro h H) | (refine Hp.st H 2 rfl rfl rfl rfl rfl ?_; intro h H) | (refine Hp.st H 3 rfl rfl rfl rfl rfl ?_; intro h H) | (refine Hp.st H 4 rfl rfl rfl rfl rfl ?_; intro h H) | (refine Hp.st H 5 rfl rfl rfl rfl rfl ?_; intro h H) | (intro b h N; replace H := Hp.new H N; clear N) | refine Drawn.mk (by kernel_rfl) ?_ | refine FillK.row rfl ?_ | refine FillK.lit rfl ?_ | refine WrapK.i64 (by omega) (by omega) ?_ | refine WrapK.u64 (by omega) (by omega) ?_ | refine WrapK.u32 (by omega) (by omega) ?_ | refine WrapK.u8 (by omega) (by omega) ?_ | refine iteT (by omega) ?_ | refine iteF (by omega) ?_ | refine iteET (by omega) ?_ | refine iteEF (by omega) ?_ | refine iteNT (by omega) ?_ | refine iteNF (by omega) ?_); conv => whnf)
    exact ⟨0, _, _, .inr (.inr ⟨by omega, by omega, hc, rfl, b, hfr, rfl, rfl⟩), rfl, H.drop 0⟩
  · conv => whnf
    repeat ((first | refine cnd_intro (by first | (simp; done) | (simp; omega) | omega | (simp only [Bool.and_eq_true, decide_eq_true_eq]; omega)) ?_ | refine Hp.ld H 0 rfl rfl ?_ | refine Hp.ld H 1 rfl rfl ?_ | refine Hp.ld H 2 rfl rfl ?_ | refine Hp.ld H 3 rfl rfl ?_ | refine Hp.ld H 4 rfl rfl ?_ | refine Hp.ld H 5 rfl rfl ?_ | (refine Hp.st H 0 rfl rfl rfl rfl rfl ?_; intro h H) | (refine Hp.st H 1 rfl rfl rfl rfl rfl ?_; intro h H) | (refine Hp.st H 2 rfl rfl rfl rfl rfl ?_; intro h H) | (refine Hp.st H 3 rfl rfl rfl rfl rfl ?_; intro h H) | (refine Hp.st H 4 rfl rfl rfl rfl rfl ?_; intro h H) | (refine Hp.st H 5 rfl rfl rfl rfl rfl ?_; intro h H) | (intro b h N; replace H := Hp.new H N; clear N) | refine Drawn.mk (by kernel_rfl) ?_ | refine FillK.row rfl ?_ | refine FillK.lit rfl ?_ | refine WrapK.i64 (by omega) (by omega) ?_ | refine WrapK.u64 (by omega) (by omega) ?_ | refine WrapK.u32 (by omega) (by omega) ?_ | refine WrapK.u8 (by omega) (by omega) ?_ | refine iteT (by omega) ?_ | refine iteF (by omega) ?_ | refine iteET (by omega) ?_ | refine iteEF (by omega) ?_ | refine iteNT (by omega) ?_ | refine iteNF (by omega) ?_); conv => whnf)
    refine CallK.mono (new_bad_call c0 c1 c2 c3 _ hc) ?_
    rintro _ h2 ⟨rfl, kb⟩
    replace H := H.and kb
    conv => whnf
    repeat ((first | refine cnd_intro (by first | (simp; done) | (simp; omega) | omega | (simp only [Bool.and_eq_true, decide_eq_true_eq]; omega)) ?_ | refine Hp.ld H 0 rfl rfl ?_ | refine Hp.ld H 1 rfl rfl ?_ | refine Hp.ld H 2 rfl rfl ?_ | refine Hp.ld H 3 rfl rfl ?_ | refine Hp.ld H 4 rfl rfl ?_ | refine Hp.ld H 5 rfl rfl ?_ | (refine Hp.st H 0 rfl rfl rfl rfl rfl ?_; intro h H) | (refine Hp.st H 1 rfl rfl rfl rfl rfl ?_; intro h H) | (refine Hp.st H 2 rfl rfl rfl rfl rfl ?_; intro h H) | (refine Hp.st H 3 rfl rfl rfl rfl rfl ?_; intro h H) | (refine Hp.st H 4 rfl rfl rfl rfl rfl ?_; intro h H) | (refine Hp.st H 5 rfl rfl rfl rfl rfl ?_; intro h H) | (intro b h N; replace H := Hp.new H N; clear N) | refine Drawn.mk (by kernel_rfl) ?_ | refine FillK.row rfl ?_ | refine FillK.lit rfl ?_ | refine WrapK.i64 (by omega) (by omega) ?_ | refine WrapK.u64 (by omega) (by omega) ?_ | refine WrapK.u32 (by omega) (by omega) ?_ | refine WrapK.u8 (by omega) (by omega) ?_ | refine iteT (by omega) ?_ | refine iteF (by omega) ?_ | refine iteET (by omega) ?_ | refine iteEF (by omega) ?_ | refine iteNT (by omega) ?_ | refine iteNF (by omega) ?_); conv => whnf)
    exact ⟨30, M, X, .inr (.inl ⟨by omega, by omega, hc, rfl, rfl, rfl⟩), rfl, H.drop 0⟩

end Go.Proofs.Ytloghahkelogbaa
