import Derived.Test.YtloghahkelogbaaPolice9
namespace Go.Proofs.Ytloghahkelogbaa
open Go.Vc
set_option maxRecDepth 10000
set_option maxHeartbeats 8000000

/-! ### police: a frame is judged (written by mkjudge.py) -/

/-- What judging a frame does. -/
def JudgeR (R : RM) (V : VM) (M : MM) (X : List (Nat × MS)) (f cls : Int) (dei : Bool) (bytes now : Int) (e : Nat) (d' : Vd) (X' : List (Nat × MS)) : Prop :=
  (lk R f = none ∧ e = 0 ∧ d' = ⟨f, 0, cls, dei⟩ ∧ X' = X) ∨
  (∃ r d1, lk R f = some r ∧ AskR r V M X ⟨f, 0, cls, dei⟩ bytes now e d1 X' ∧ d' = ⟨d1.stream, e, d1.cls, d1.dei⟩)

theorem AskR.four {r : Rul} {V : VM} {M : MM} {X : List (Nat × MS)} {d : Vd} {bytes now : Int} {e : Nat} {d' : Vd} {X' : List (Nat × MS)} (h : AskR r V M X d bytes now e d' X') : e = 0 ∨ e = 1 ∨ e = 2 ∨ e = 3 := by
  rcases h with ⟨_, rfl, _⟩ | ⟨_, _, rfl, _⟩ | ⟨_, _, _, rfl, _⟩ | ⟨_, _, _, _, _, _, _, _, ⟨_, rfl, _⟩ | ⟨_, rfl, _⟩⟩ <;> simp

/-- One more of a reason. -/
def kAdd (e i : Nat) (k : Int) : Int := if e = i then k + 1 else k

theorem perm_ask {α : Type} {a b c d e f g h i j : α} {l : List α} : (b :: e :: f :: g :: h :: i :: j :: a :: c :: d :: l).Perm (a :: b :: c :: d :: e :: f :: g :: h :: i :: j :: l) := by
  have h0 : ([1, 4, 5, 6, 7, 8, 9, 0, 2, 3] : List Nat).Perm [0, 1, 2, 3, 4, 5, 6, 7, 8, 9] := by decide
  exact (h0.map (fun n => [a, b, c, d, e, f, g, h, i, j][n]?.getD a)).append_right l

theorem judge_call {h0 h : Heap} {rs : List Res} {g : Nat} {s : Value} {fs : List Flt} {bR bV bM : Nat} {k0 k1 k2 k3 : Int} {R : RM} {V : VM} {M : MM} {B : List Vlv} {X : List (Nat × MS)}
    (H : Hp h0 h (Res.pol g s fs bR bV bM k0 k1 k2 k3 :: Res.mp pI Rul.enc bR R :: Res.mp pI Vlv.enc bV V :: Res.mp pI ptrV bM M :: Res.bag B :: Res.mss X :: rs)) (F : Hdr) (vid bytes cls now : Int) (hfs : fs.length ≤ 1000) (ok : ∀ r, lk R (findF F vid fs) = some r → RuleOk r V M B X) (ht : now ≤ 9223372036854775807)
    (hk0 : 0 ≤ k0 ∧ k0 ≤ 4611686018427387904) (hk1 : 0 ≤ k1 ∧ k1 ≤ 4611686018427387904) (hk2 : 0 ≤ k2 ∧ k2 ≤ 4611686018427387904) (hk3 : 0 ≤ k3 ∧ k3 ≤ 4611686018427387904) :
    CallK Try.prog 17 #[.pointer (some ⟨g, 0, none⟩), .agg F.cells.toArray, .int .i64 vid, .int .i64 bytes, .int .i64 cls, .int .i64 now] h fun v h' => ∃ (e : Nat) (d' : Vd) (X' : List (Nat × MS)), JudgeR R V M X (findF F vid fs) cls F.dei bytes now e d' X' ∧ v = .agg d'.cells.toArray ∧
      Hp h0 h' (Res.pol g s fs bR bV bM (kAdd e 0 k0) (kAdd e 1 k1) (kAdd e 2 k2) (kAdd e 3 k3) :: Res.mp pI Rul.enc bR R :: Res.mp pI Vlv.enc bV V :: Res.mp pI ptrV bM M :: Res.bag B :: Res.mss X' :: rs) := by
  refine CallK.of_vc (EA_ok [14]) [0, 1, 2, 3, 4, 5, 7, 12, 13, 14, 15, 36] Try.func17 rfl (Nat.le_of_ble_eq_true rfl) ?_
  conv => whnf
  intro g7 h1 N
  replace H := H.new N
  clear N
  conv => whnf
  intro g12 h2 N
  replace H := H.new N
  clear N
  conv => whnf
  repeat ((first | refine cnd_intro (by first | (simp; done) | (simp; omega) | omega | (simp only [Bool.and_eq_true, decide_eq_true_eq]; omega)) ?_ | refine Hp.ld H 0 rfl rfl ?_ | refine Hp.ld H 1 rfl rfl ?_ | refine Hp.ld H 2 rfl rfl ?_ | refine Hp.ld H 3 rfl rfl ?_ | refine Hp.ld H 4 rfl rfl ?_ | refine Hp.ld H 5 rfl rfl ?_ | (refine Hp.st H 0 rfl rfl rfl rfl rfl ?_; intro h H) | (refine Hp.st H 1 rfl rfl rfl rfl rfl ?_; intro h H) | (refine Hp.st H 2 rfl rfl rfl rfl rfl ?_; intro h H) | (refine Hp.st H 3 rfl rfl rfl rfl rfl ?_; intro h H) | (refine Hp.st H 4 rfl rfl rfl rfl rfl ?_; intro h H) | (refine Hp.st H 5 rfl rfl rfl rfl rfl ?_; intro h H) | (intro b h N; replace H := Hp.new H N; clear N) | refine FillK.row rfl ?_ | refine FillK.lit rfl ?_ | refine WrapK.i64 (by omega) (by omega) ?_ | refine WrapK.u64 (by omega) (by omega) ?_ | refine WrapK.u32 (by omega) (by omega) ?_ | refine WrapK.u8 (by omega) (by omega) ?_ | refine iteT (by omega) ?_ | refine iteF (by omega) ?_ | refine iteET (by omega) ?_ | refine iteEF (by omega) ?_ | refine iteNT (by omega) ?_ | refine iteNF (by omega) ?_); conv => whnf)
  refine Drawn.keys [0, 1, 2, 4, 6, 7] [(3, []), (5, [3]), (8, []), (10, [])] [9, 11] (by kernel_rfl) ?_
  conv => whnf
  repeat ((first | refine cnd_intro (by first | (simp; done) | (simp; omega) | omega | (simp only [Bool.and_eq_true, decide_eq_true_eq]; omega)) ?_ | refine Hp.ld H 0 rfl rfl ?_ | refine Hp.ld H 1 rfl rfl ?_ | refine Hp.ld H 2 rfl rfl ?_ | refine Hp.ld H 3 rfl rfl ?_ | refine Hp.ld H 4 rfl rfl ?_ | refine Hp.ld H 5 rfl rfl ?_ | (refine Hp.st H 0 rfl rfl rfl rfl rfl ?_; intro h H) | (refine Hp.st H 1 rfl rfl rfl rfl rfl ?_; intro h H) | (refine Hp.st H 2 rfl rfl rfl rfl rfl ?_; intro h H) | (refine Hp.st H 3 rfl rfl rfl rfl rfl ?_; intro h H) | (refine Hp.st H 4 rfl rfl rfl rfl rfl ?_; intro h H) | (refine Hp.st H 5 rfl rfl rfl rfl rfl ?_; intro h H) | (intro b h N; replace H := Hp.new H N; clear N) | refine Drawn.mk (by kernel_rfl) ?_ | refine FillK.row rfl ?_ | refine FillK.lit rfl ?_ | refine WrapK.i64 (by omega) (by omega) ?_ | refine WrapK.u64 (by omega) (by omega) ?_ | refine WrapK.u32 (by omega) (by omega) ?_ | refine WrapK.u8 (by omega) (by omega) ?_ | refine iteT (by omega) ?_ | refine iteF (by omega) ?_ | refine iteET (by omega) ?_ | refine iteEF (by omega) ?_ | refine iteNT (by omega) ?_ | refine iteNF (by omega) ?_); conv => whnf)
  refine ⟨fun D val h => (D 3 = true → val 3 = .agg F.cells.toArray) ∧ (D 5 = true → val 5 = .int .i64 (findF F vid fs)) ∧ (D 8 = true → val 8 = .bool F.dei) ∧
    Hp h0 h (Res.opt (D 10) (Res.via ptrM (val 10) fun b => Res.ob b (.cells (Vd.cells ⟨0, 0, 0, false⟩).toArray 69 (0, 0))) :: Res.ob g12 (.cells (Vd.cells ⟨0, 0, 0, false⟩).toArray 69 (0, 0)) :: Res.ob g7 (.cells F.cells.toArray 67 (0, 0)) :: Res.pol g s fs bR bV bM k0 k1 k2 k3 :: Res.mp pI Rul.enc bR R :: Res.mp pI Vlv.enc bV V :: Res.mp pI ptrV bM M :: Res.bag B :: Res.mss X :: rs),
    fun _ => .bool false, ⟨fun h => absurd (show false = true from h) (by decide), fun h => absurd (show false = true from h) (by decide), fun h => absurd (show false = true from h) (by decide), H.emp⟩, And.intro ?_ (And.intro ?_ (And.intro ?_ (And.intro ?_ trivial))), ?_⟩
  · rintro D val h ⟨v3, v5, v8, H⟩
    conv => whnf
    refine Hp.ld H 2 rfl rfl ?_
    exact ⟨fun _ => rfl, v5, v8, H⟩
  · rintro D val h ⟨v3, v5, v8, H⟩
    conv => whnf
    rw [v3 rfl]
    refine CallK.mono (pfind_call _ g s fs F vid (ptab_view (i := 3) H rfl) (by omega)) ?_
    rintro _ h5 ⟨k5, rfl⟩
    exact ⟨v3, fun _ => rfl, v8, H.and k5⟩
  · rintro D val h ⟨v3, v5, v8, H⟩
    conv => whnf
    refine Hp.ld H 2 rfl rfl ?_
    exact ⟨v3, v5, fun _ => rfl, H⟩
  · rintro D val h ⟨v3, v5, v8, H⟩
    conv => whnf
    intro b h5 N
    exact ⟨v3, v5, v8, (Hp.via_in ptrM (fun b => Res.ob b (.cells (Vd.cells ⟨0, 0, 0, false⟩).toArray 69 (0, 0))) (v := .pointer (some ⟨b, 0, none⟩)) (H.new N) 0 rfl rfl).fill 0 rfl⟩
  clear H
  rintro val h3 ⟨_, v5, v8, H⟩
  have hX := H.via_out 0 rfl
  obtain ⟨gv, hv10, H2⟩ := hX
  change val 10 = .pointer (some ⟨gv, 0, none⟩) at hv10
  have HH : Hp h0 h3 (Res.ob gv (.cells (Vd.cells ⟨0, 0, 0, false⟩).toArray 69 (0, 0)) :: Res.ob g12 (.cells (Vd.cells ⟨0, 0, 0, false⟩).toArray 69 (0, 0)) :: Res.ob g7 (.cells F.cells.toArray 67 (0, 0)) :: Res.pol g s fs bR bV bM k0 k1 k2 k3 :: Res.mp pI Rul.enc bR R :: Res.mp pI Vlv.enc bV V :: Res.mp pI ptrV bM M :: Res.bag B :: Res.mss X :: rs) := H2
  clear H2
  repeat clear H
  have H := HH
  clear HH
  conv => whnf
  rw [v5 rfl, v8 rfl]
  refine FillK.lit rfl ?_
  conv => whnf
  rw [hv10]
  conv => whnf
  repeat ((first | refine cnd_intro (by first | (simp; done) | (simp; omega) | omega | (simp only [Bool.and_eq_true, decide_eq_true_eq]; omega)) ?_ | refine Hp.ld H 0 rfl rfl ?_ | refine Hp.ld H 1 rfl rfl ?_ | refine Hp.ld H 2 rfl rfl ?_ | refine Hp.ld H 3 rfl rfl ?_ | refine Hp.ld H 4 rfl rfl ?_ | refine Hp.ld H 5 rfl rfl ?_ | (refine Hp.st H 0 rfl rfl rfl rfl rfl ?_; intro h H) | (refine Hp.st H 1 rfl rfl rfl rfl rfl ?_; intro h H) | (refine Hp.st H 2 rfl rfl rfl rfl rfl ?_; intro h H) | (refine Hp.st H 3 rfl rfl rfl rfl rfl ?_; intro h H) | (refine Hp.st H 4 rfl rfl rfl rfl rfl ?_; intro h H) | (refine Hp.st H 5 rfl rfl rfl rfl rfl ?_; intro h H) | (intro b h N; replace H := Hp.new H N; clear N) | refine FillK.row rfl ?_ | refine FillK.lit rfl ?_ | refine WrapK.i64 (by omega) (by omega) ?_ | refine WrapK.u64 (by omega) (by omega) ?_ | refine WrapK.u32 (by omega) (by omega) ?_ | refine WrapK.u8 (by omega) (by omega) ?_ | refine iteT (by omega) ?_ | refine iteF (by omega) ?_ | refine iteET (by omega) ?_ | refine iteEF (by omega) ?_ | refine iteNT (by omega) ?_ | refine iteNF (by omega) ?_); conv => whnf)
  refine Drawn.ord [0, 1, 2, 3, 4, 5, 6, 7, 8, 9, 10, 11, 12] (by kernel_rfl) ?_
  have HH : Hp h0 _ (Res.ob gv (.cells (Vd.cells ⟨findF F vid fs, 0, cls, F.dei⟩).toArray 69 (0, 0)) :: Res.ob g12 (.cells (Vd.cells ⟨0, 0, 0, false⟩).toArray 69 (0, 0)) :: Res.ob g7 (.cells F.cells.toArray 67 (0, 0)) :: Res.pol g s fs bR bV bM k0 k1 k2 k3 :: Res.mp pI Rul.enc bR R :: Res.mp pI Vlv.enc bV V :: Res.mp pI ptrV bM M :: Res.bag B :: Res.mss X :: rs) := H
  repeat clear H
  have H := HH
  clear HH
  conv => whnf
  repeat ((first | refine cnd_intro (by first | (simp; done) | (simp; omega) | omega | (simp only [Bool.and_eq_true, decide_eq_true_eq]; omega)) ?_ | refine Hp.ld H 0 rfl rfl ?_ | refine Hp.ld H 1 rfl rfl ?_ | refine Hp.ld H 2 rfl rfl ?_ | refine Hp.ld H 3 rfl rfl ?_ | refine Hp.ld H 4 rfl rfl ?_ | refine Hp.ld H 5 rfl rfl ?_ | (refine Hp.st H 0 rfl rfl rfl rfl rfl ?_; intro h H) | (refine Hp.st H 1 rfl rfl rfl rfl rfl ?_; intro h H) | (refine Hp.st H 2 rfl rfl rfl rfl rfl ?_; intro h H) | (refine Hp.st H 3 rfl rfl rfl rfl rfl ?_; intro h H) | (refine Hp.st H 4 rfl rfl rfl rfl rfl ?_; intro h H) | (refine Hp.st H 5 rfl rfl rfl rfl rfl ?_; intro h H) | refine Drawn.mk (by kernel_rfl) ?_ | refine WrapK.i64 (by omega) (by omega) ?_ | refine WrapK.u64 (by omega) (by omega) ?_ | refine WrapK.u32 (by omega) (by omega) ?_ | refine WrapK.u8 (by omega) (by omega) ?_ | refine iteT (by omega) ?_ | refine iteF (by omega) ?_ | refine iteET (by omega) ?_ | refine iteEF (by omega) ?_ | refine iteNT (by omega) ?_ | refine iteNF (by omega) ?_); conv => whnf)
  refine LdK.lit (pol_ob (i := 3) H rfl) rfl ?_
  conv => whnf
  repeat ((first | refine cnd_intro (by first | (simp; done) | (simp; omega) | omega | (simp only [Bool.and_eq_true, decide_eq_true_eq]; omega)) ?_ | refine Hp.ld H 0 rfl rfl ?_ | refine Hp.ld H 1 rfl rfl ?_ | refine Hp.ld H 2 rfl rfl ?_ | refine Hp.ld H 3 rfl rfl ?_ | refine Hp.ld H 4 rfl rfl ?_ | refine Hp.ld H 5 rfl rfl ?_ | (refine Hp.st H 0 rfl rfl rfl rfl rfl ?_; intro h H) | (refine Hp.st H 1 rfl rfl rfl rfl rfl ?_; intro h H) | (refine Hp.st H 2 rfl rfl rfl rfl rfl ?_; intro h H) | (refine Hp.st H 3 rfl rfl rfl rfl rfl ?_; intro h H) | (refine Hp.st H 4 rfl rfl rfl rfl rfl ?_; intro h H) | (refine Hp.st H 5 rfl rfl rfl rfl rfl ?_; intro h H) | refine Drawn.mk (by kernel_rfl) ?_ | refine WrapK.i64 (by omega) (by omega) ?_ | refine WrapK.u64 (by omega) (by omega) ?_ | refine WrapK.u32 (by omega) (by omega) ?_ | refine WrapK.u8 (by omega) (by omega) ?_ | refine iteT (by omega) ?_ | refine iteF (by omega) ?_ | refine iteET (by omega) ?_ | refine iteEF (by omega) ?_ | refine iteNT (by omega) ?_ | refine iteNF (by omega) ?_); conv => whnf)
  have hv10' : val ((10, ([] : List Nat)).fst) = .pointer (some ⟨gv, 0, none⟩) := hv10
  rw [hv10']
  conv => whnf
  repeat ((first | refine cnd_intro (by first | (simp; done) | (simp; omega) | omega | (simp only [Bool.and_eq_true, decide_eq_true_eq]; omega)) ?_ | refine Hp.ld H 0 rfl rfl ?_ | refine Hp.ld H 1 rfl rfl ?_ | refine Hp.ld H 2 rfl rfl ?_ | refine Hp.ld H 3 rfl rfl ?_ | refine Hp.ld H 4 rfl rfl ?_ | refine Hp.ld H 5 rfl rfl ?_ | (refine Hp.st H 0 rfl rfl rfl rfl rfl ?_; intro h H) | (refine Hp.st H 1 rfl rfl rfl rfl rfl ?_; intro h H) | (refine Hp.st H 2 rfl rfl rfl rfl rfl ?_; intro h H) | (refine Hp.st H 3 rfl rfl rfl rfl rfl ?_; intro h H) | (refine Hp.st H 4 rfl rfl rfl rfl rfl ?_; intro h H) | (refine Hp.st H 5 rfl rfl rfl rfl rfl ?_; intro h H) | refine Drawn.mk (by kernel_rfl) ?_ | refine WrapK.i64 (by omega) (by omega) ?_ | refine WrapK.u64 (by omega) (by omega) ?_ | refine WrapK.u32 (by omega) (by omega) ?_ | refine WrapK.u8 (by omega) (by omega) ?_ | refine iteT (by omega) ?_ | refine iteF (by omega) ?_ | refine iteET (by omega) ?_ | refine iteEF (by omega) ?_ | refine iteNT (by omega) ?_ | refine iteNF (by omega) ?_); conv => whnf)
  have hX := lk_cases R (findF F vid fs)
  rcases hX with ⟨r, hr⟩ | hr
  · refine MapAt.lookup (EA_ok _) (H.get 4 rfl) (pkey_okA _) (k := findF F vid fs) rfl rfl rfl rfl rfl rfl (u := .tuple #[Rul.enc r, .bool true]) (by rw [hr]; rfl) ?_
    conv => whnf
    repeat ((first | refine cnd_intro (by first | (simp; done) | (simp; omega) | omega | (simp only [Bool.and_eq_true, decide_eq_true_eq]; omega)) ?_ | refine Hp.ld H 0 rfl rfl ?_ | refine Hp.ld H 1 rfl rfl ?_ | refine Hp.ld H 2 rfl rfl ?_ | refine Hp.ld H 3 rfl rfl ?_ | refine Hp.ld H 4 rfl rfl ?_ | refine Hp.ld H 5 rfl rfl ?_ | (refine Hp.st H 0 rfl rfl rfl rfl rfl ?_; intro h H) | (refine Hp.st H 1 rfl rfl rfl rfl rfl ?_; intro h H) | (refine Hp.st H 2 rfl rfl rfl rfl rfl ?_; intro h H) | (refine Hp.st H 3 rfl rfl rfl rfl rfl ?_; intro h H) | (refine Hp.st H 4 rfl rfl rfl rfl rfl ?_; intro h H) | (refine Hp.st H 5 rfl rfl rfl rfl rfl ?_; intro h H) | refine Drawn.mk (by kernel_rfl) ?_ | refine WrapK.i64 (by omega) (by omega) ?_ | refine WrapK.u64 (by omega) (by omega) ?_ | refine WrapK.u32 (by omega) (by omega) ?_ | refine WrapK.u8 (by omega) (by omega) ?_ | refine iteT (by omega) ?_ | refine iteF (by omega) ?_ | refine iteET (by omega) ?_ | refine iteEF (by omega) ?_ | refine iteNT (by omega) ?_ | refine iteNF (by omega) ?_); conv => whnf)
    intro g14 h4 N
    refine ⟨N.keep, ?_⟩
    replace H := H.new N
    clear N
    conv => whnf
    repeat ((first | refine cnd_intro (by first | (simp; done) | (simp; omega) | omega | (simp only [Bool.and_eq_true, decide_eq_true_eq]; omega)) ?_ | refine Hp.ld H 0 rfl rfl ?_ | refine Hp.ld H 1 rfl rfl ?_ | refine Hp.ld H 2 rfl rfl ?_ | refine Hp.ld H 3 rfl rfl ?_ | refine Hp.ld H 4 rfl rfl ?_ | refine Hp.ld H 5 rfl rfl ?_ | (refine Hp.st H 0 rfl rfl rfl rfl rfl ?_; intro h H) | (refine Hp.st H 1 rfl rfl rfl rfl rfl ?_; intro h H) | (refine Hp.st H 2 rfl rfl rfl rfl rfl ?_; intro h H) | (refine Hp.st H 3 rfl rfl rfl rfl rfl ?_; intro h H) | (refine Hp.st H 4 rfl rfl rfl rfl rfl ?_; intro h H) | (refine Hp.st H 5 rfl rfl rfl rfl rfl ?_; intro h H) | refine Drawn.mk (by kernel_rfl) ?_ | refine WrapK.i64 (by omega) (by omega) ?_ | refine WrapK.u64 (by omega) (by omega) ?_ | refine WrapK.u32 (by omega) (by omega) ?_ | refine WrapK.u8 (by omega) (by omega) ?_ | refine iteT (by omega) ?_ | refine iteF (by omega) ?_ | refine iteET (by omega) ?_ | refine iteEF (by omega) ?_ | refine iteNT (by omega) ?_ | refine iteNF (by omega) ?_); conv => whnf)
    have HH : Hp h0 _ (Res.ob g14 (.cells r.cells.toArray 32 (0, 0)) :: Res.ob gv (.cells (Vd.cells ⟨findF F vid fs, 0, cls, F.dei⟩).toArray 69 (0, 0)) :: Res.ob g12 (.cells (Vd.cells ⟨0, 0, 0, false⟩).toArray 69 (0, 0)) :: Res.ob g7 (.cells F.cells.toArray 67 (0, 0)) :: Res.pol g s fs bR bV bM k0 k1 k2 k3 :: Res.mp pI Rul.enc bR R :: Res.mp pI Vlv.enc bV V :: Res.mp pI ptrV bM M :: Res.bag B :: Res.mss X :: rs) := H
    repeat clear H
    have H := HH
    clear HH
    have HH : Hp h0 _ (Res.ob gv (.cells (Vd.cells ⟨findF F vid fs, 0, cls, F.dei⟩).toArray 69 (0, 0)) :: Res.pol g s fs bR bV bM k0 k1 k2 k3 :: Res.mp pI Rul.enc bR R :: Res.mp pI Vlv.enc bV V :: Res.mp pI ptrV bM M :: Res.bag B :: Res.mss X :: (Res.ob g14 (.cells r.cells.toArray 32 (0, 0)) :: Res.ob g12 (.cells (Vd.cells ⟨0, 0, 0, false⟩).toArray 69 (0, 0)) :: Res.ob g7 (.cells F.cells.toArray 67 (0, 0)) :: rs)) := H.sub ⟨[], by rw [List.append_nil]; exact perm_ask⟩
    repeat clear H
    have H := HH
    clear HH
    refine CallK.mono (ask_call H r bytes now (ok r hr) ht) ?_
    rintro _ h5 ⟨e, d1, X2, hA, rfl, H5⟩
    obtain ⟨ds, dr, dc, dd⟩ := d1
    have HH : Hp h0 _ (Res.ob g14 (.cells r.cells.toArray 32 (0, 0)) :: Res.ob gv (.cells (Vd.cells ⟨ds, dr, dc, dd⟩).toArray 69 (0, 0)) :: Res.ob g12 (.cells (Vd.cells ⟨0, 0, 0, false⟩).toArray 69 (0, 0)) :: Res.ob g7 (.cells F.cells.toArray 67 (0, 0)) :: Res.pol g s fs bR bV bM k0 k1 k2 k3 :: Res.mp pI Rul.enc bR R :: Res.mp pI Vlv.enc bV V :: Res.mp pI ptrV bM M :: Res.bag B :: Res.mss X2 :: rs) := H5.sub ⟨[], by rw [List.append_nil]; exact perm_ask.symm⟩
    repeat clear H
    have H := HH
    clear HH
    have h4 := hA.four
    rcases h4 with rfl | rfl | rfl | rfl
    · conv => whnf
      repeat ((first | refine cnd_intro (by first | (simp; done) | (simp; omega) | omega | (simp only [Bool.and_eq_true, decide_eq_true_eq]; omega)) ?_ | refine Hp.ld H 0 rfl rfl ?_ | refine Hp.ld H 1 rfl rfl ?_ | refine Hp.ld H 2 rfl rfl ?_ | refine Hp.ld H 3 rfl rfl ?_ | refine Hp.ld H 4 rfl rfl ?_ | refine Hp.ld H 5 rfl rfl ?_ | (refine Hp.st H 0 rfl rfl rfl rfl rfl ?_; intro h H) | (refine Hp.st H 1 rfl rfl rfl rfl rfl ?_; intro h H) | (refine Hp.st H 2 rfl rfl rfl rfl rfl ?_; intro h H) | (refine Hp.st H 3 rfl rfl rfl rfl rfl ?_; intro h H) | (refine Hp.st H 4 rfl rfl rfl rfl rfl ?_; intro h H) | (refine Hp.st H 5 rfl rfl rfl rfl rfl ?_; intro h H) | refine Drawn.mk (by kernel_rfl) ?_ | refine WrapK.i64 (by omega) (by omega) ?_ | refine WrapK.u64 (by omega) (by omega) ?_ | refine WrapK.u32 (by omega) (by omega) ?_ | refine WrapK.u8 (by omega) (by omega) ?_ | refine iteT (by omega) ?_ | refine iteF (by omega) ?_ | refine iteET (by omega) ?_ | refine iteEF (by omega) ?_ | refine iteNT (by omega) ?_ | refine iteNF (by omega) ?_); conv => whnf)
      have HH : Hp h0 _ (Res.own s 62 9 fs.length (fs.flatMap Flt.cells) :: Res.ob g (.cells (s :: polR bR bV bM k0 k1 k2 k3).toArray 58 (0, 0)) :: Res.ob g14 (.cells r.cells.toArray 32 (0, 0)) :: Res.ob gv (.cells (Vd.cells ⟨ds, 0, dc, dd⟩).toArray 69 (0, 0)) :: Res.ob g12 (.cells (Vd.cells ⟨0, 0, 0, false⟩).toArray 69 (0, 0)) :: Res.ob g7 (.cells F.cells.toArray 67 (0, 0)) :: Res.mp pI Rul.enc bR R :: Res.mp pI Vlv.enc bV V :: Res.mp pI ptrV bM M :: Res.bag B :: Res.mss X2 :: rs) := (H.pick 4 rfl).unpair
      repeat clear H
      have H := HH
      clear HH
      conv => whnf
      repeat ((first | refine cnd_intro (by first | (simp; done) | (simp; omega) | omega | (simp only [Bool.and_eq_true, decide_eq_true_eq]; omega)) ?_ | refine Hp.ld H 0 rfl rfl ?_ | refine Hp.ld H 1 rfl rfl ?_ | refine Hp.ld H 2 rfl rfl ?_ | refine Hp.ld H 3 rfl rfl ?_ | refine Hp.ld H 4 rfl rfl ?_ | refine Hp.ld H 5 rfl rfl ?_ | (refine Hp.st H 0 rfl rfl rfl rfl rfl ?_; intro h H) | (refine Hp.st H 1 rfl rfl rfl rfl rfl ?_; intro h H) | (refine Hp.st H 2 rfl rfl rfl rfl rfl ?_; intro h H) | (refine Hp.st H 3 rfl rfl rfl rfl rfl ?_; intro h H) | (refine Hp.st H 4 rfl rfl rfl rfl rfl ?_; intro h H) | (refine Hp.st H 5 rfl rfl rfl rfl rfl ?_; intro h H) | (intro b h N; replace H := Hp.new H N; clear N) | refine Drawn.mk (by kernel_rfl) ?_ | refine FillK.row rfl ?_ | refine FillK.lit rfl ?_ | refine WrapK.i64 (by omega) (by omega) ?_ | refine WrapK.u64 (by omega) (by omega) ?_ | refine WrapK.u32 (by omega) (by omega) ?_ | refine WrapK.u8 (by omega) (by omega) ?_ | refine iteT (by omega) ?_ | refine iteF (by omega) ?_ | refine iteET (by omega) ?_ | refine iteEF (by omega) ?_ | refine iteNT (by omega) ?_ | refine iteNF (by omega) ?_); conv => whnf)
      have HH : Hp h0 _ (Res.own s 62 9 fs.length (fs.flatMap Flt.cells) :: Res.ob g (.cells (s :: polR bR bV bM (k0 + 1) k1 k2 k3).toArray 58 (0, 0)) :: Res.ob g14 (.cells r.cells.toArray 32 (0, 0)) :: Res.ob gv (.cells (Vd.cells ⟨ds, 0, dc, dd⟩).toArray 69 (0, 0)) :: Res.ob g12 (.cells (Vd.cells ⟨ds, 0, dc, dd⟩).toArray 69 (0, 0)) :: Res.ob g7 (.cells F.cells.toArray 67 (0, 0)) :: Res.mp pI Rul.enc bR R :: Res.mp pI Vlv.enc bV V :: Res.mp pI ptrV bM M :: Res.bag B :: Res.mss X2 :: rs) := H
      repeat clear H
      have H := HH
      clear HH
      have HH : Hp h0 _ (Res.pol g s fs bR bV bM (k0 + 1) k1 k2 k3 :: Res.mp pI Rul.enc bR R :: Res.mp pI Vlv.enc bV V :: Res.mp pI ptrV bM M :: Res.bag B :: Res.mss X2 :: rs) := ((((H.pair).drop 1).drop 1).drop 1).drop 1
      exact ⟨0, ⟨ds, 0, dc, dd⟩, X2, .inr ⟨r, ⟨ds, dr, dc, dd⟩, hr, hA, rfl⟩, rfl, HH⟩
    · conv => whnf
      repeat ((first | refine cnd_intro (by first | (simp; done) | (simp; omega) | omega | (simp only [Bool.and_eq_true, decide_eq_true_eq]; omega)) ?_ | refine Hp.ld H 0 rfl rfl ?_ | refine Hp.ld H 1 rfl rfl ?_ | refine Hp.ld H 2 rfl rfl ?_ | refine Hp.ld H 3 rfl rfl ?_ | refine Hp.ld H 4 rfl rfl ?_ | refine Hp.ld H 5 rfl rfl ?_ | (refine Hp.st H 0 rfl rfl rfl rfl rfl ?_; intro h H) | (refine Hp.st H 1 rfl rfl rfl rfl rfl ?_; intro h H) | (refine Hp.st H 2 rfl rfl rfl rfl rfl ?_; intro h H) | (refine Hp.st H 3 rfl rfl rfl rfl rfl ?_; intro h H) | (refine Hp.st H 4 rfl rfl rfl rfl rfl ?_; intro h H) | (refine Hp.st H 5 rfl rfl rfl rfl rfl ?_; intro h H) | refine Drawn.mk (by kernel_rfl) ?_ | refine WrapK.i64 (by omega) (by omega) ?_ | refine WrapK.u64 (by omega) (by omega) ?_ | refine WrapK.u32 (by omega) (by omega) ?_ | refine WrapK.u8 (by omega) (by omega) ?_ | refine iteT (by omega) ?_ | refine iteF (by omega) ?_ | refine iteET (by omega) ?_ | refine iteEF (by omega) ?_ | refine iteNT (by omega) ?_ | refine iteNF (by omega) ?_); conv => whnf)
      have HH : Hp h0 _ (Res.own s 62 9 fs.length (fs.flatMap Flt.cells) :: Res.ob g (.cells (s :: polR bR bV bM k0 k1 k2 k3).toArray 58 (0, 0)) :: Res.ob g14 (.cells r.cells.toArray 32 (0, 0)) :: Res.ob gv (.cells (Vd.cells ⟨ds, 1, dc, dd⟩).toArray 69 (0, 0)) :: Res.ob g12 (.cells (Vd.cells ⟨0, 0, 0, false⟩).toArray 69 (0, 0)) :: Res.ob g7 (.cells F.cells.toArray 67 (0, 0)) :: Res.mp pI Rul.enc bR R :: Res.mp pI Vlv.enc bV V :: Res.mp pI ptrV bM M :: Res.bag B :: Res.mss X2 :: rs) := (H.pick 4 rfl).unpair
      repeat clear H
      have H := HH
      clear HH
      conv => whnf
      repeat ((first | refine cnd_intro (by first | (simp; done) | (simp; omega) | omega | (simp only [Bool.and_eq_true, decide_eq_true_eq]; omega)) ?_ | refine Hp.ld H 0 rfl rfl ?_ | refine Hp.ld H 1 rfl rfl ?_ | refine Hp.ld H 2 rfl rfl ?_ | refine Hp.ld H 3 rfl rfl ?_ | refine Hp.ld H 4 rfl rfl ?_ | refine Hp.ld H 5 rfl rfl ?_ | (refine Hp.st H 0 rfl rfl rfl rfl rfl ?_; intro h H) | (refine Hp.st H 1 rfl rfl rfl rfl rfl ?_; intro h H) | (refine Hp.st H 2 rfl rfl rfl rfl rfl ?_; intro h H) | (refine Hp.st H 3 rfl rfl rfl rfl rfl ?_; intro h H) | (refine Hp.st H 4 rfl rfl rfl rfl rfl ?_; intro h H) | (refine Hp.st H 5 rfl rfl rfl rfl rfl ?_; intro h H) | (intro b h N; replace H := Hp.new H N; clear N) | refine Drawn.mk (by kernel_rfl) ?_ | refine FillK.row rfl ?_ | refine FillK.lit rfl ?_ | refine WrapK.i64 (by omega) (by omega) ?_ | refine WrapK.u64 (by omega) (by omega) ?_ | refine WrapK.u32 (by omega) (by omega) ?_ | refine WrapK.u8 (by omega) (by omega) ?_ | refine iteT (by omega) ?_ | refine iteF (by omega) ?_ | refine iteET (by omega) ?_ | refine iteEF (by omega) ?_ | refine iteNT (by omega) ?_ | refine iteNF (by omega) ?_); conv => whnf)
      have HH : Hp h0 _ (Res.own s 62 9 fs.length (fs.flatMap Flt.cells) :: Res.ob g (.cells (s :: polR bR bV bM k0 (k1 + 1) k2 k3).toArray 58 (0, 0)) :: Res.ob g14 (.cells r.cells.toArray 32 (0, 0)) :: Res.ob gv (.cells (Vd.cells ⟨ds, 1, dc, dd⟩).toArray 69 (0, 0)) :: Res.ob g12 (.cells (Vd.cells ⟨ds, 1, dc, dd⟩).toArray 69 (0, 0)) :: Res.ob g7 (.cells F.cells.toArray 67 (0, 0)) :: Res.mp pI Rul.enc bR R :: Res.mp pI Vlv.enc bV V :: Res.mp pI ptrV bM M :: Res.bag B :: Res.mss X2 :: rs) := H
      repeat clear H
      have H := HH
      clear HH
      have HH : Hp h0 _ (Res.pol g s fs bR bV bM k0 (k1 + 1) k2 k3 :: Res.mp pI Rul.enc bR R :: Res.mp pI Vlv.enc bV V :: Res.mp pI ptrV bM M :: Res.bag B :: Res.mss X2 :: rs) := ((((H.pair).drop 1).drop 1).drop 1).drop 1
      exact ⟨1, ⟨ds, 1, dc, dd⟩, X2, .inr ⟨r, ⟨ds, dr, dc, dd⟩, hr, hA, rfl⟩, rfl, HH⟩
    · conv => whnf
      repeat ((first | refine cnd_intro (by first | (simp; done) | (simp; omega) | omega | (simp only [Bool.and_eq_true, decide_eq_true_eq]; omega)) ?_ | refine Hp.ld H 0 rfl rfl ?_ | refine Hp.ld H 1 rfl rfl ?_ | refine Hp.ld H 2 rfl rfl ?_ | refine Hp.ld H 3 rfl rfl ?_ | refine Hp.ld H 4 rfl rfl ?_ | refine Hp.ld H 5 rfl rfl ?_ | (refine Hp.st H 0 rfl rfl rfl rfl rfl ?_; intro h H) | (refine Hp.st H 1 rfl rfl rfl rfl rfl ?_; intro h H) | (refine Hp.st H 2 rfl rfl rfl rfl rfl ?_; intro h H) | (refine Hp.st H 3 rfl rfl rfl rfl rfl ?_; intro h H) | (refine Hp.st H 4 rfl rfl rfl rfl rfl ?_; intro h H) | (refine Hp.st H 5 rfl rfl rfl rfl rfl ?_; intro h H) | refine Drawn.mk (by kernel_rfl) ?_ | refine WrapK.i64 (by omega) (by omega) ?_ | refine WrapK.u64 (by omega) (by omega) ?_ | refine WrapK.u32 (by omega) (by omega) ?_ | refine WrapK.u8 (by omega) (by omega) ?_ | refine iteT (by omega) ?_ | refine iteF (by omega) ?_ | refine iteET (by omega) ?_ | refine iteEF (by omega) ?_ | refine iteNT (by omega) ?_ | refine iteNF (by omega) ?_); conv => whnf)
      have HH : Hp h0 _ (Res.own s 62 9 fs.length (fs.flatMap Flt.cells) :: Res.ob g (.cells (s :: polR bR bV bM k0 k1 k2 k3).toArray 58 (0, 0)) :: Res.ob g14 (.cells r.cells.toArray 32 (0, 0)) :: Res.ob gv (.cells (Vd.cells ⟨ds, 2, dc, dd⟩).toArray 69 (0, 0)) :: Res.ob g12 (.cells (Vd.cells ⟨0, 0, 0, false⟩).toArray 69 (0, 0)) :: Res.ob g7 (.cells F.cells.toArray 67 (0, 0)) :: Res.mp pI Rul.enc bR R :: Res.mp pI Vlv.enc bV V :: Res.mp pI ptrV bM M :: Res.bag B :: Res.mss X2 :: rs) := (H.pick 4 rfl).unpair
      repeat clear H
      have H := HH
      clear HH
      conv => whnf
      repeat ((first | refine cnd_intro (by first | (simp; done) | (simp; omega) | omega | (simp only [Bool.and_eq_true, decide_eq_true_eq]; omega)) ?_ | refine Hp.ld H 0 rfl rfl ?_ | refine Hp.ld H 1 rfl rfl ?_ | refine Hp.ld H 2 rfl rfl ?_ | refine Hp.ld H 3 rfl rfl ?_ | refine Hp.ld H 4 rfl rfl ?_ | refine Hp.ld H 5 rfl rfl ?_ | (refine Hp.st H 0 rfl rfl rfl rfl rfl ?_; intro h H) | (refine Hp.st H 1 rfl rfl rfl rfl rfl ?_; intro h H) | (refine Hp.st H 2 rfl rfl rfl rfl rfl ?_; intro h H) | (refine Hp.st H 3 rfl rfl rfl rfl rfl ?_; intro h H) | (refine Hp.st H 4 rfl rfl rfl rfl rfl ?_; intro h H) | (refine Hp.st H 5 rfl rfl rfl rfl rfl ?_; intro h H) | (intro b h N; replace H := Hp.new H N; clear N) | refine Drawn.mk (by kernel_rfl) ?_ | refine FillK.row rfl ?_ | refine FillK.lit rfl ?_ | refine WrapK.i64 (by omega) (by omega) ?_ | refine WrapK.u64 (by omega) (by omega) ?_ | refine WrapK.u32 (by omega) (by omega) ?_ | refine WrapK.u8 (by omega) (by omega) ?_ | refine iteT (by omega) ?_ | refine iteF (by omega) ?_ | refine iteET (by omega) ?_ | refine iteEF (by omega) ?_ | refine iteNT (by omega) ?_ | refine iteNF (by omega) ?_); conv => whnf)
      have HH : Hp h0 _ (Res.own s 62 9 fs.length (fs.flatMap Flt.cells) :: Res.ob g (.cells (s :: polR bR bV bM k0 k1 (k2 + 1) k3).toArray 58 (0, 0)) :: Res.ob g14 (.cells r.cells.toArray 32 (0, 0)) :: Res.ob gv (.cells (Vd.cells ⟨ds, 2, dc, dd⟩).toArray 69 (0, 0)) :: Res.ob g12 (.cells (Vd.cells ⟨ds, 2, dc, dd⟩).toArray 69 (0, 0)) :: Res.ob g7 (.cells F.cells.toArray 67 (0, 0)) :: Res.mp pI Rul.enc bR R :: Res.mp pI Vlv.enc bV V :: Res.mp pI ptrV bM M :: Res.bag B :: Res.mss X2 :: rs) := H
      repeat clear H
      have H := HH
      clear HH
      have HH : Hp h0 _ (Res.pol g s fs bR bV bM k0 k1 (k2 + 1) k3 :: Res.mp pI Rul.enc bR R :: Res.mp pI Vlv.enc bV V :: Res.mp pI ptrV bM M :: Res.bag B :: Res.mss X2 :: rs) := ((((H.pair).drop 1).drop 1).drop 1).drop 1
      exact ⟨2, ⟨ds, 2, dc, dd⟩, X2, .inr ⟨r, ⟨ds, dr, dc, dd⟩, hr, hA, rfl⟩, rfl, HH⟩
    · conv => whnf
      repeat ((first | refine cnd_intro (by first | (simp; done) | (simp; omega) | omega | (simp only [Bool.and_eq_true, decide_eq_true_eq]; omega)) ?_ | refine Hp.ld H 0 rfl rfl ?_ | refine Hp.ld H 1 rfl rfl ?_ | refine Hp.ld H 2 rfl rfl ?_ | refine Hp.ld H 3 rfl rfl ?_ | refine Hp.ld H 4 rfl rfl ?_ | refine Hp.ld H 5 rfl rfl ?_ | (refine Hp.st H 0 rfl rfl rfl rfl rfl ?_; intro h H) | (refine Hp.st H 1 rfl rfl rfl rfl rfl ?_; intro h H) | (refine Hp.st H 2 rfl rfl rfl rfl rfl ?_; intro h H) | (refine Hp.st H 3 rfl rfl rfl rfl rfl ?_; intro h H) | (refine Hp.st H 4 rfl rfl rfl rfl rfl ?_; intro h H) | (refine Hp.st H 5 rfl rfl rfl rfl rfl ?_; intro h H) | refine Drawn.mk (by kernel_rfl) ?_ | refine WrapK.i64 (by omega) (by omega) ?_ | refine WrapK.u64 (by omega) (by omega) ?_ | refine WrapK.u32 (by omega) (by omega) ?_ | refine WrapK.u8 (by omega) (by omega) ?_ | refine iteT (by omega) ?_ | refine iteF (by omega) ?_ | refine iteET (by omega) ?_ | refine iteEF (by omega) ?_ | refine iteNT (by omega) ?_ | refine iteNF (by omega) ?_); conv => whnf)
      have HH : Hp h0 _ (Res.own s 62 9 fs.length (fs.flatMap Flt.cells) :: Res.ob g (.cells (s :: polR bR bV bM k0 k1 k2 k3).toArray 58 (0, 0)) :: Res.ob g14 (.cells r.cells.toArray 32 (0, 0)) :: Res.ob gv (.cells (Vd.cells ⟨ds, 3, dc, dd⟩).toArray 69 (0, 0)) :: Res.ob g12 (.cells (Vd.cells ⟨0, 0, 0, false⟩).toArray 69 (0, 0)) :: Res.ob g7 (.cells F.cells.toArray 67 (0, 0)) :: Res.mp pI Rul.enc bR R :: Res.mp pI Vlv.enc bV V :: Res.mp pI ptrV bM M :: Res.bag B :: Res.mss X2 :: rs) := (H.pick 4 rfl).unpair
      repeat clear H
      have H := HH
      clear HH
      conv => whnf
      repeat ((first | refine cnd_intro (by first | (simp; done) | (simp; omega) | omega | (simp only [Bool.and_eq_true, decide_eq_true_eq]; omega)) ?_ | refine Hp.ld H 0 rfl rfl ?_ | refine Hp.ld H 1 rfl rfl ?_ | refine Hp.ld H 2 rfl rfl ?_ | refine Hp.ld H 3 rfl rfl ?_ | refine Hp.ld H 4 rfl rfl ?_ | refine Hp.ld H 5 rfl rfl ?_ | (refine Hp.st H 0 rfl rfl rfl rfl rfl ?_; intro h H) | (refine Hp.st H 1 rfl rfl rfl rfl rfl ?_; intro h H) | (refine Hp.st H 2 rfl rfl rfl rfl rfl ?_; intro h H) | (refine Hp.st H 3 rfl rfl rfl rfl rfl ?_; intro h H) | (refine Hp.st H 4 rfl rfl rfl rfl rfl ?_; intro h H) | (refine Hp.st H 5 rfl rfl rfl rfl rfl ?_; intro h H) | (intro b h N; replace H := Hp.new H N; clear N) | refine Drawn.mk (by kernel_rfl) ?_ | refine FillK.row rfl ?_ | refine FillK.lit rfl ?_ | refine WrapK.i64 (by omega) (by omega) ?_ | refine WrapK.u64 (by omega) (by omega) ?_ | refine WrapK.u32 (by omega) (by omega) ?_ | refine WrapK.u8 (by omega) (by omega) ?_ | refine iteT (by omega) ?_ | refine iteF (by omega) ?_ | refine iteET (by omega) ?_ | refine iteEF (by omega) ?_ | refine iteNT (by omega) ?_ | refine iteNF (by omega) ?_); conv => whnf)
      have HH : Hp h0 _ (Res.own s 62 9 fs.length (fs.flatMap Flt.cells) :: Res.ob g (.cells (s :: polR bR bV bM k0 k1 k2 (k3 + 1)).toArray 58 (0, 0)) :: Res.ob g14 (.cells r.cells.toArray 32 (0, 0)) :: Res.ob gv (.cells (Vd.cells ⟨ds, 3, dc, dd⟩).toArray 69 (0, 0)) :: Res.ob g12 (.cells (Vd.cells ⟨ds, 3, dc, dd⟩).toArray 69 (0, 0)) :: Res.ob g7 (.cells F.cells.toArray 67 (0, 0)) :: Res.mp pI Rul.enc bR R :: Res.mp pI Vlv.enc bV V :: Res.mp pI ptrV bM M :: Res.bag B :: Res.mss X2 :: rs) := H
      repeat clear H
      have H := HH
      clear HH
      have HH : Hp h0 _ (Res.pol g s fs bR bV bM k0 k1 k2 (k3 + 1) :: Res.mp pI Rul.enc bR R :: Res.mp pI Vlv.enc bV V :: Res.mp pI ptrV bM M :: Res.bag B :: Res.mss X2 :: rs) := ((((H.pair).drop 1).drop 1).drop 1).drop 1
      exact ⟨3, ⟨ds, 3, dc, dd⟩, X2, .inr ⟨r, ⟨ds, dr, dc, dd⟩, hr, hA, rfl⟩, rfl, HH⟩
  · refine MapAt.lookup (EA_ok _) (H.get 4 rfl) (pkey_okA _) (k := findF F vid fs) rfl rfl rfl rfl rfl rfl (u := .tuple #[Rul.enc ⟨0, 0, 0⟩, .bool false]) (by rw [hr]; rfl) ?_
    conv => whnf
    repeat ((first | refine cnd_intro (by first | (simp; done) | (simp; omega) | omega | (simp only [Bool.and_eq_true, decide_eq_true_eq]; omega)) ?_ | refine Hp.ld H 0 rfl rfl ?_ | refine Hp.ld H 1 rfl rfl ?_ | refine Hp.ld H 2 rfl rfl ?_ | refine Hp.ld H 3 rfl rfl ?_ | refine Hp.ld H 4 rfl rfl ?_ | refine Hp.ld H 5 rfl rfl ?_ | (refine Hp.st H 0 rfl rfl rfl rfl rfl ?_; intro h H) | (refine Hp.st H 1 rfl rfl rfl rfl rfl ?_; intro h H) | (refine Hp.st H 2 rfl rfl rfl rfl rfl ?_; intro h H) | (refine Hp.st H 3 rfl rfl rfl rfl rfl ?_; intro h H) | (refine Hp.st H 4 rfl rfl rfl rfl rfl ?_; intro h H) | (refine Hp.st H 5 rfl rfl rfl rfl rfl ?_; intro h H) | refine Drawn.mk (by kernel_rfl) ?_ | refine WrapK.i64 (by omega) (by omega) ?_ | refine WrapK.u64 (by omega) (by omega) ?_ | refine WrapK.u32 (by omega) (by omega) ?_ | refine WrapK.u8 (by omega) (by omega) ?_ | refine iteT (by omega) ?_ | refine iteF (by omega) ?_ | refine iteET (by omega) ?_ | refine iteEF (by omega) ?_ | refine iteNT (by omega) ?_ | refine iteNF (by omega) ?_); conv => whnf)
    intro g14 h4 N
    refine ⟨N.keep, ?_⟩
    replace H := H.new N
    clear N
    conv => whnf
    repeat ((first | refine cnd_intro (by first | (simp; done) | (simp; omega) | omega | (simp only [Bool.and_eq_true, decide_eq_true_eq]; omega)) ?_ | refine Hp.ld H 0 rfl rfl ?_ | refine Hp.ld H 1 rfl rfl ?_ | refine Hp.ld H 2 rfl rfl ?_ | refine Hp.ld H 3 rfl rfl ?_ | refine Hp.ld H 4 rfl rfl ?_ | refine Hp.ld H 5 rfl rfl ?_ | (refine Hp.st H 0 rfl rfl rfl rfl rfl ?_; intro h H) | (refine Hp.st H 1 rfl rfl rfl rfl rfl ?_; intro h H) | (refine Hp.st H 2 rfl rfl rfl rfl rfl ?_; intro h H) | (refine Hp.st H 3 rfl rfl rfl rfl rfl ?_; intro h H) | (refine Hp.st H 4 rfl rfl rfl rfl rfl ?_; intro h H) | (refine Hp.st H 5 rfl rfl rfl rfl rfl ?_; intro h H) | refine Drawn.mk (by kernel_rfl) ?_ | refine WrapK.i64 (by omega) (by omega) ?_ | refine WrapK.u64 (by omega) (by omega) ?_ | refine WrapK.u32 (by omega) (by omega) ?_ | refine WrapK.u8 (by omega) (by omega) ?_ | refine iteT (by omega) ?_ | refine iteF (by omega) ?_ | refine iteET (by omega) ?_ | refine iteEF (by omega) ?_ | refine iteNT (by omega) ?_ | refine iteNF (by omega) ?_); conv => whnf)
    have HH : Hp h0 _ (Res.ob g14 (.cells (⟨0, 0, 0⟩ : Rul).cells.toArray 32 (0, 0)) :: Res.ob gv (.cells (Vd.cells ⟨findF F vid fs, 0, cls, F.dei⟩).toArray 69 (0, 0)) :: Res.ob g12 (.cells (Vd.cells ⟨0, 0, 0, false⟩).toArray 69 (0, 0)) :: Res.ob g7 (.cells F.cells.toArray 67 (0, 0)) :: Res.pol g s fs bR bV bM k0 k1 k2 k3 :: Res.mp pI Rul.enc bR R :: Res.mp pI Vlv.enc bV V :: Res.mp pI ptrV bM M :: Res.bag B :: Res.mss X :: rs) := H
    repeat clear H
    have H := HH
    clear HH
    have HH : Hp h0 _ (Res.own s 62 9 fs.length (fs.flatMap Flt.cells) :: Res.ob g (.cells (s :: polR bR bV bM k0 k1 k2 k3).toArray 58 (0, 0)) :: Res.ob g14 (.cells (⟨0, 0, 0⟩ : Rul).cells.toArray 32 (0, 0)) :: Res.ob gv (.cells (Vd.cells ⟨findF F vid fs, 0, cls, F.dei⟩).toArray 69 (0, 0)) :: Res.ob g12 (.cells (Vd.cells ⟨0, 0, 0, false⟩).toArray 69 (0, 0)) :: Res.ob g7 (.cells F.cells.toArray 67 (0, 0)) :: Res.mp pI Rul.enc bR R :: Res.mp pI Vlv.enc bV V :: Res.mp pI ptrV bM M :: Res.bag B :: Res.mss X :: rs) := (H.pick 4 rfl).unpair
    repeat clear H
    have H := HH
    clear HH
    conv => whnf
    repeat ((first | refine cnd_intro (by first | (simp; done) | (simp; omega) | omega | (simp only [Bool.and_eq_true, decide_eq_true_eq]; omega)) ?_ | refine Hp.ld H 0 rfl rfl ?_ | refine Hp.ld H 1 rfl rfl ?_ | refine Hp.ld H 2 rfl rfl ?_ | refine Hp.ld H 3 rfl rfl ?_ | refine Hp.ld H 4 rfl rfl ?_ | refine Hp.ld H 5 rfl rfl ?_ | (refine Hp.st H 0 rfl rfl rfl rfl rfl ?_; intro h H) | (refine Hp.st H 1 rfl rfl rfl rfl rfl ?_; intro h H) | (refine Hp.st H 2 rfl rfl rfl rfl rfl ?_; intro h H) | (refine Hp.st H 3 rfl rfl rfl rfl rfl ?_; intro h H) | (refine Hp.st H 4 rfl rfl rfl rfl rfl ?_; intro h H) | (refine Hp.st H 5 rfl rfl rfl rfl rfl ?_; intro h H) | (intro b h N; replace H := Hp.new H N; clear N) | refine Drawn.mk (by kernel_rfl) ?_ | refine FillK.row rfl ?_ | refine FillK.lit rfl ?_ | refine WrapK.i64 (by omega) (by omega) ?_ | refine WrapK.u64 (by omega) (by omega) ?_ | refine WrapK.u32 (by omega) (by omega) ?_ | refine WrapK.u8 (by omega) (by omega) ?_ | refine iteT (by omega) ?_ | refine iteF (by omega) ?_ | refine iteET (by omega) ?_ | refine iteEF (by omega) ?_ | refine iteNT (by omega) ?_ | refine iteNF (by omega) ?_); conv => whnf)
    have HH : Hp h0 _ (Res.own s 62 9 fs.length (fs.flatMap Flt.cells) :: Res.ob g (.cells (s :: polR bR bV bM (k0 + 1) k1 k2 k3).toArray 58 (0, 0)) :: Res.ob g14 (.cells (⟨0, 0, 0⟩ : Rul).cells.toArray 32 (0, 0)) :: Res.ob gv (.cells (Vd.cells ⟨findF F vid fs, 0, cls, F.dei⟩).toArray 69 (0, 0)) :: Res.ob g12 (.cells (Vd.cells ⟨findF F vid fs, 0, cls, F.dei⟩).toArray 69 (0, 0)) :: Res.ob g7 (.cells F.cells.toArray 67 (0, 0)) :: Res.mp pI Rul.enc bR R :: Res.mp pI Vlv.enc bV V :: Res.mp pI ptrV bM M :: Res.bag B :: Res.mss X :: rs) := H
    repeat clear H
    have H := HH
    clear HH
    have HH : Hp h0 _ (Res.pol g s fs bR bV bM (k0 + 1) k1 k2 k3 :: Res.mp pI Rul.enc bR R :: Res.mp pI Vlv.enc bV V :: Res.mp pI ptrV bM M :: Res.bag B :: Res.mss X :: rs) := ((((H.pair).drop 1).drop 1).drop 1).drop 1
    exact ⟨0, ⟨findF F vid fs, 0, cls, F.dei⟩, X, .inl ⟨hr, rfl, rfl, rfl⟩, rfl, HH⟩

end Go.Proofs.Ytloghahkelogbaa
