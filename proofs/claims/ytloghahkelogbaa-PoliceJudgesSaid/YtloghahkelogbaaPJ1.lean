import Derived.Test.YtloghahkelogbaaSrt3
import Derived.Test.YtloghahkelogbaaPJ0
namespace Go.Proofs.Ytloghahkelogbaa
open Go.Vc
set_option maxRecDepth 10000
set_option maxHeartbeats 8000000

/-! ### police: one stream with a gate and a meter (written by mkpj.py) -/

theorem j_add : addF jF [] = (0, [jF]) := by kernel_rfl

theorem ents_of {h : Heap} {b T : Nat} (x : h[b]? = some (.cells (jL.es.flatMap Ent.cells).toArray T (0, 0))) : EntsV h (.slice (some ⟨b, 0, none⟩) 2 2) jL.es := ⟨(RowsV.of_own (f := Ent.cells) (D := 0) (e := T) ⟨rfl, .inr ⟨b, 2, [], rfl, Nat.zero_le _, x, rfl⟩⟩ (fun _ => rfl) (by decide)).out⟩
theorem ints_of {h : Heap} {b T : Nat} (x : h[b]? = some (.cells (jC.flatMap cI).toArray T (0, 0))) : IntsV h (.slice (some ⟨b, 0, none⟩) 2 2) jC := RowsV.of_own (f := cI) (D := 0) (e := T) ⟨rfl, .inr ⟨b, 2, [], rfl, Nat.zero_le _, x, rfl⟩⟩ (fun _ => rfl) (by decide)

def jm : Nat → MS
  | 0 => jM0
  | 1 => jM1
  | 2 => jM1
  | 3 => jM1
  | _ => jM2
def jk0 : Nat → Int
  | 0 => 0
  | 1 => 1
  | 2 => 1
  | 3 => 1
  | _ => 2
def jk1 : Nat → Int
  | 0 => 0
  | 1 => 0
  | _ => 1
def jk2 : Nat → Int
  | 0 => 0
  | 1 => 0
  | 2 => 0
  | _ => 1
def jv : Nat → Vd
  | 0 => ⟨3, 0, 5, false⟩
  | 1 => ⟨3, 1, 2, false⟩
  | 2 => ⟨3, 2, 2, false⟩
  | _ => ⟨3, 0, 5, true⟩

theorem judges_call (h0 : Heap) : CallK Try.prog 6 #[] h0 fun v h' => v = .bool true ∧ Keep (fun _ => False) h0 h' := by
  refine CallK.of_vc (EA_ok [36]) (args := []) [0, 1, 2, 3, 4, 5, 6, 7, 8, 9, 10, 11, 14, 51] Try.func6 rfl (Nat.le_of_ble_eq_true rfl) ?_
  have H := Hp.start h0
  conv => whnf
  repeat ((first | refine cnd_intro (by first | (simp; done) | (simp; omega) | omega | (simp only [Bool.and_eq_true, decide_eq_true_eq]; omega)) ?_ | refine Hp.ld H 0 rfl rfl ?_ | refine Hp.ld H 1 rfl rfl ?_ | refine Hp.ld H 2 rfl rfl ?_ | refine Hp.ld H 3 rfl rfl ?_ | refine Hp.ld H 4 rfl rfl ?_ | refine Hp.ld H 5 rfl rfl ?_ | (refine Hp.st H 0 rfl rfl rfl rfl rfl ?_; intro h H) | (refine Hp.st H 1 rfl rfl rfl rfl rfl ?_; intro h H) | (refine Hp.st H 2 rfl rfl rfl rfl rfl ?_; intro h H) | (refine Hp.st H 3 rfl rfl rfl rfl rfl ?_; intro h H) | (refine Hp.st H 4 rfl rfl rfl rfl rfl ?_; intro h H) | (refine Hp.st H 5 rfl rfl rfl rfl rfl ?_; intro h H) | (intro b h N; replace H := Hp.new H N; clear N) | refine Drawn.mk (by kernel_rfl) ?_ | refine FillK.row rfl ?_ | refine FillK.lit rfl ?_ | refine WrapK.i64 (by omega) (by omega) ?_ | refine WrapK.u64 (by omega) (by omega) ?_ | refine WrapK.u32 (by omega) (by omega) ?_ | refine WrapK.u8 (by omega) (by omega) ?_ | refine iteT (by omega) ?_ | refine iteF (by omega) ?_ | refine iteET (by omega) ?_ | refine iteEF (by omega) ?_ | refine iteNT (by omega) ?_ | refine iteNF (by omega) ?_); conv => whnf)
  refine CallK.mono (pnew_call _) ?_
  rintro _ h1 ⟨g, bR, bV, bM, rfl, P⟩
  have P2 := Hp.no_bag (Hp.no_mss (H.join P))
  have HH : Hp h0 h1 (Res.pol g (.slice none 0 0) [] bR bV bM 0 0 0 0 :: Res.mp pI Rul.enc bR [] :: Res.mp pI Vlv.enc bV [] :: Res.mp pI ptrV bM [] :: Res.bag [] :: Res.mss [] :: []) := P2.sub ⟨[], by rw [List.append_nil]; exact List.perm_append_comm (l₁ := [_, _, _, _]) (l₂ := [_, _])⟩
  repeat clear H; clear P2
  have H := HH
  clear HH
  clear P
  conv => whnf
  repeat ((first | refine cnd_intro (by first | (simp; done) | (simp; omega) | omega | (simp only [Bool.and_eq_true, decide_eq_true_eq]; omega)) ?_ | refine Hp.ld H 0 rfl rfl ?_ | refine Hp.ld H 1 rfl rfl ?_ | refine Hp.ld H 2 rfl rfl ?_ | refine Hp.ld H 3 rfl rfl ?_ | refine Hp.ld H 4 rfl rfl ?_ | refine Hp.ld H 5 rfl rfl ?_ | (refine Hp.st H 0 rfl rfl rfl rfl rfl ?_; intro h H) | (refine Hp.st H 1 rfl rfl rfl rfl rfl ?_; intro h H) | (refine Hp.st H 2 rfl rfl rfl rfl rfl ?_; intro h H) | (refine Hp.st H 3 rfl rfl rfl rfl rfl ?_; intro h H) | (refine Hp.st H 4 rfl rfl rfl rfl rfl ?_; intro h H) | (refine Hp.st H 5 rfl rfl rfl rfl rfl ?_; intro h H) | refine Drawn.mk (by kernel_rfl) ?_ | refine WrapK.i64 (by omega) (by omega) ?_ | refine WrapK.u64 (by omega) (by omega) ?_ | refine WrapK.u32 (by omega) (by omega) ?_ | refine WrapK.u8 (by omega) (by omega) ?_ | refine iteT (by omega) ?_ | refine iteF (by omega) ?_ | refine iteET (by omega) ?_ | refine iteEF (by omega) ?_ | refine iteNT (by omega) ?_ | refine iteNF (by omega) ?_); conv => whnf)
  refine EqK.ptr_nil (EA_ok _) rfl rfl ?_
  conv => whnf
  repeat ((first | refine cnd_intro (by first | (simp; done) | (simp; omega) | omega | (simp only [Bool.and_eq_true, decide_eq_true_eq]; omega)) ?_ | refine Hp.ld H 0 rfl rfl ?_ | refine Hp.ld H 1 rfl rfl ?_ | refine Hp.ld H 2 rfl rfl ?_ | refine Hp.ld H 3 rfl rfl ?_ | refine Hp.ld H 4 rfl rfl ?_ | refine Hp.ld H 5 rfl rfl ?_ | (refine Hp.st H 0 rfl rfl rfl rfl rfl ?_; intro h H) | (refine Hp.st H 1 rfl rfl rfl rfl rfl ?_; intro h H) | (refine Hp.st H 2 rfl rfl rfl rfl rfl ?_; intro h H) | (refine Hp.st H 3 rfl rfl rfl rfl rfl ?_; intro h H) | (refine Hp.st H 4 rfl rfl rfl rfl rfl ?_; intro h H) | (refine Hp.st H 5 rfl rfl rfl rfl rfl ?_; intro h H) | refine Drawn.mk (by kernel_rfl) ?_ | refine WrapK.i64 (by omega) (by omega) ?_ | refine WrapK.u64 (by omega) (by omega) ?_ | refine WrapK.u32 (by omega) (by omega) ?_ | refine WrapK.u8 (by omega) (by omega) ?_ | refine iteT (by omega) ?_ | refine iteF (by omega) ?_ | refine iteET (by omega) ?_ | refine iteEF (by omega) ?_ | refine iteNT (by omega) ?_ | refine iteNF (by omega) ?_); conv => whnf)
  repeat (first | (refine FillK.row rfl ?_; conv => whnf) | (refine FillK.lit rfl ?_; conv => whnf))
  intro g2 h2 N
  replace H := H.new N
  clear N
  conv => whnf
  repeat ((first | refine cnd_intro (by first | (simp; done) | (simp; omega) | omega | (simp only [Bool.and_eq_true, decide_eq_true_eq]; omega)) ?_ | refine Hp.ld H 0 rfl rfl ?_ | refine Hp.ld H 1 rfl rfl ?_ | refine Hp.ld H 2 rfl rfl ?_ | refine Hp.ld H 3 rfl rfl ?_ | refine Hp.ld H 4 rfl rfl ?_ | refine Hp.ld H 5 rfl rfl ?_ | (refine Hp.st H 0 rfl rfl rfl rfl rfl ?_; intro h H) | (refine Hp.st H 1 rfl rfl rfl rfl rfl ?_; intro h H) | (refine Hp.st H 2 rfl rfl rfl rfl rfl ?_; intro h H) | (refine Hp.st H 3 rfl rfl rfl rfl rfl ?_; intro h H) | (refine Hp.st H 4 rfl rfl rfl rfl rfl ?_; intro h H) | (refine Hp.st H 5 rfl rfl rfl rfl rfl ?_; intro h H) | refine Drawn.mk (by kernel_rfl) ?_ | refine WrapK.i64 (by omega) (by omega) ?_ | refine WrapK.u64 (by omega) (by omega) ?_ | refine WrapK.u32 (by omega) (by omega) ?_ | refine WrapK.u8 (by omega) (by omega) ?_ | refine iteT (by omega) ?_ | refine iteF (by omega) ?_ | refine iteET (by omega) ?_ | refine iteEF (by omega) ?_ | refine iteNT (by omega) ?_ | refine iteNF (by omega) ?_); conv => whnf)
  repeat (first | (refine FillK.row rfl ?_; conv => whnf) | (refine FillK.lit rfl ?_; conv => whnf))
  conv => whnf
  repeat ((first | refine cnd_intro (by first | (simp; done) | (simp; omega) | omega | (simp only [Bool.and_eq_true, decide_eq_true_eq]; omega)) ?_ | refine Hp.ld H 0 rfl rfl ?_ | refine Hp.ld H 1 rfl rfl ?_ | refine Hp.ld H 2 rfl rfl ?_ | refine Hp.ld H 3 rfl rfl ?_ | refine Hp.ld H 4 rfl rfl ?_ | refine Hp.ld H 5 rfl rfl ?_ | (refine Hp.st H 0 rfl rfl rfl rfl rfl ?_; intro h H) | (refine Hp.st H 1 rfl rfl rfl rfl rfl ?_; intro h H) | (refine Hp.st H 2 rfl rfl rfl rfl rfl ?_; intro h H) | (refine Hp.st H 3 rfl rfl rfl rfl rfl ?_; intro h H) | (refine Hp.st H 4 rfl rfl rfl rfl rfl ?_; intro h H) | (refine Hp.st H 5 rfl rfl rfl rfl rfl ?_; intro h H) | refine Drawn.mk (by kernel_rfl) ?_ | refine WrapK.i64 (by omega) (by omega) ?_ | refine WrapK.u64 (by omega) (by omega) ?_ | refine WrapK.u32 (by omega) (by omega) ?_ | refine WrapK.u8 (by omega) (by omega) ?_ | refine iteT (by omega) ?_ | refine iteF (by omega) ?_ | refine iteET (by omega) ?_ | refine iteEF (by omega) ?_ | refine iteNT (by omega) ?_ | refine iteNF (by omega) ?_); conv => whnf)
  repeat (first | (refine FillK.row rfl ?_; conv => whnf) | (refine FillK.lit rfl ?_; conv => whnf))
  intro ge h3 N
  replace H := H.new N
  clear N
  conv => whnf
  repeat ((first | refine cnd_intro (by first | (simp; done) | (simp; omega) | omega | (simp only [Bool.and_eq_true, decide_eq_true_eq]; omega)) ?_ | refine Hp.ld H 0 rfl rfl ?_ | refine Hp.ld H 1 rfl rfl ?_ | refine Hp.ld H 2 rfl rfl ?_ | refine Hp.ld H 3 rfl rfl ?_ | refine Hp.ld H 4 rfl rfl ?_ | refine Hp.ld H 5 rfl rfl ?_ | (refine Hp.st H 0 rfl rfl rfl rfl rfl ?_; intro h H) | (refine Hp.st H 1 rfl rfl rfl rfl rfl ?_; intro h H) | (refine Hp.st H 2 rfl rfl rfl rfl rfl ?_; intro h H) | (refine Hp.st H 3 rfl rfl rfl rfl rfl ?_; intro h H) | (refine Hp.st H 4 rfl rfl rfl rfl rfl ?_; intro h H) | (refine Hp.st H 5 rfl rfl rfl rfl rfl ?_; intro h H) | refine Drawn.mk (by kernel_rfl) ?_ | refine WrapK.i64 (by omega) (by omega) ?_ | refine WrapK.u64 (by omega) (by omega) ?_ | refine WrapK.u32 (by omega) (by omega) ?_ | refine WrapK.u8 (by omega) (by omega) ?_ | refine iteT (by omega) ?_ | refine iteF (by omega) ?_ | refine iteET (by omega) ?_ | refine iteEF (by omega) ?_ | refine iteNT (by omega) ?_ | refine iteNF (by omega) ?_); conv => whnf)
  repeat (first | (refine FillK.row rfl ?_; conv => whnf) | (refine FillK.lit rfl ?_; conv => whnf))
  conv => whnf
  repeat ((first | refine cnd_intro (by first | (simp; done) | (simp; omega) | omega | (simp only [Bool.and_eq_true, decide_eq_true_eq]; omega)) ?_ | refine Hp.ld H 0 rfl rfl ?_ | refine Hp.ld H 1 rfl rfl ?_ | refine Hp.ld H 2 rfl rfl ?_ | refine Hp.ld H 3 rfl rfl ?_ | refine Hp.ld H 4 rfl rfl ?_ | refine Hp.ld H 5 rfl rfl ?_ | (refine Hp.st H 0 rfl rfl rfl rfl rfl ?_; intro h H) | (refine Hp.st H 1 rfl rfl rfl rfl rfl ?_; intro h H) | (refine Hp.st H 2 rfl rfl rfl rfl rfl ?_; intro h H) | (refine Hp.st H 3 rfl rfl rfl rfl rfl ?_; intro h H) | (refine Hp.st H 4 rfl rfl rfl rfl rfl ?_; intro h H) | (refine Hp.st H 5 rfl rfl rfl rfl rfl ?_; intro h H) | refine Drawn.mk (by kernel_rfl) ?_ | refine WrapK.i64 (by omega) (by omega) ?_ | refine WrapK.u64 (by omega) (by omega) ?_ | refine WrapK.u32 (by omega) (by omega) ?_ | refine WrapK.u8 (by omega) (by omega) ?_ | refine iteT (by omega) ?_ | refine iteF (by omega) ?_ | refine iteET (by omega) ?_ | refine iteEF (by omega) ?_ | refine iteNT (by omega) ?_ | refine iteNF (by omega) ?_); conv => whnf)
  intro g3 h4 N
  replace H := H.new N
  clear N
  conv => whnf
  repeat ((first | refine cnd_intro (by first | (simp; done) | (simp; omega) | omega | (simp only [Bool.and_eq_true, decide_eq_true_eq]; omega)) ?_ | refine Hp.ld H 0 rfl rfl ?_ | refine Hp.ld H 1 rfl rfl ?_ | refine Hp.ld H 2 rfl rfl ?_ | refine Hp.ld H 3 rfl rfl ?_ | refine Hp.ld H 4 rfl rfl ?_ | refine Hp.ld H 5 rfl rfl ?_ | (refine Hp.st H 0 rfl rfl rfl rfl rfl ?_; intro h H) | (refine Hp.st H 1 rfl rfl rfl rfl rfl ?_; intro h H) | (refine Hp.st H 2 rfl rfl rfl rfl rfl ?_; intro h H) | (refine Hp.st H 3 rfl rfl rfl rfl rfl ?_; intro h H) | (refine Hp.st H 4 rfl rfl rfl rfl rfl ?_; intro h H) | (refine Hp.st H 5 rfl rfl rfl rfl rfl ?_; intro h H) | (intro b h N; replace H := Hp.new H N; clear N) | refine FillK.row rfl ?_ | refine FillK.lit rfl ?_ | refine WrapK.i64 (by omega) (by omega) ?_ | refine WrapK.u64 (by omega) (by omega) ?_ | refine WrapK.u32 (by omega) (by omega) ?_ | refine WrapK.u8 (by omega) (by omega) ?_ | refine iteT (by omega) ?_ | refine iteF (by omega) ?_ | refine iteET (by omega) ?_ | refine iteEF (by omega) ?_ | refine iteNT (by omega) ?_ | refine iteNF (by omega) ?_); conv => whnf)
  have HH : Hp h0 _ (Res.ob g3 (.cells (jL.cells (.slice (some ⟨ge, 0, none⟩) 2 2)).toArray 24 (0, 0)) :: Res.ob ge (.cells (jL.es.flatMap Ent.cells).toArray 81 (0, 0)) :: Res.ob g2 (.cells jM.cells.toArray 60 (0, 0)) :: Res.pol g (.slice none 0 0) [] bR bV bM 0 0 0 0 :: Res.mp pI Rul.enc bR [] :: Res.mp pI Vlv.enc bV [] :: Res.mp pI ptrV bM [] :: Res.bag [] :: Res.mss [] :: []) := H
  repeat clear H
  have H := HH
  clear HH
  have HH : Hp h0 _ (Res.pol g (.slice none 0 0) [] bR bV bM 0 0 0 0 :: Res.mp pI Rul.enc bR [] :: Res.mp pI Vlv.enc bV [] :: Res.mp pI ptrV bM [] :: Res.bag [] :: Res.mss [] :: Res.ob g3 (.cells (jL.cells (.slice (some ⟨ge, 0, none⟩) 2 2)).toArray 24 (0, 0)) :: Res.ob ge (.cells (jL.es.flatMap Ent.cells).toArray 81 (0, 0)) :: Res.ob g2 (.cells jM.cells.toArray 60 (0, 0)) :: []) := H.sub ⟨[], by rw [List.append_nil]; exact List.perm_append_comm (l₁ := [_, _, _, _, _, _]) (l₂ := [_, _, _])⟩
  repeat clear H
  have H := HH
  clear HH
  refine Drawn.ord [0, 1, 2, 3, 4, 5, 6, 7, 8, 9, 10, 11, 12, 13, 14, 15, 16, 17, 18, 19, 20, 21, 22, 23, 24, 25, 26, 27, 28, 29, 30, 31] (by kernel_rfl) ?_
  conv => whnf
  repeat ((first | refine cnd_intro (by first | (simp; done) | (simp; omega) | omega | (simp only [Bool.and_eq_true, decide_eq_true_eq]; omega)) ?_ | refine Hp.ld H 0 rfl rfl ?_ | refine Hp.ld H 1 rfl rfl ?_ | refine Hp.ld H 2 rfl rfl ?_ | refine Hp.ld H 3 rfl rfl ?_ | refine Hp.ld H 4 rfl rfl ?_ | refine Hp.ld H 5 rfl rfl ?_ | (refine Hp.st H 0 rfl rfl rfl rfl rfl ?_; intro h H) | (refine Hp.st H 1 rfl rfl rfl rfl rfl ?_; intro h H) | (refine Hp.st H 2 rfl rfl rfl rfl rfl ?_; intro h H) | (refine Hp.st H 3 rfl rfl rfl rfl rfl ?_; intro h H) | (refine Hp.st H 4 rfl rfl rfl rfl rfl ?_; intro h H) | (refine Hp.st H 5 rfl rfl rfl rfl rfl ?_; intro h H) | refine Drawn.mk (by kernel_rfl) ?_ | refine WrapK.i64 (by omega) (by omega) ?_ | refine WrapK.u64 (by omega) (by omega) ?_ | refine WrapK.u32 (by omega) (by omega) ?_ | refine WrapK.u8 (by omega) (by omega) ?_ | refine iteT (by omega) ?_ | refine iteF (by omega) ?_ | refine iteET (by omega) ?_ | refine iteEF (by omega) ?_ | refine iteNT (by omega) ?_ | refine iteNF (by omega) ?_); conv => whnf)
  refine Hp.ld H 8 rfl rfl ?_
  conv => whnf
  repeat ((first | refine cnd_intro (by first | (simp; done) | (simp; omega) | omega | (simp only [Bool.and_eq_true, decide_eq_true_eq]; omega)) ?_ | refine Hp.ld H 0 rfl rfl ?_ | refine Hp.ld H 1 rfl rfl ?_ | refine Hp.ld H 2 rfl rfl ?_ | refine Hp.ld H 3 rfl rfl ?_ | refine Hp.ld H 4 rfl rfl ?_ | refine Hp.ld H 5 rfl rfl ?_ | (refine Hp.st H 0 rfl rfl rfl rfl rfl ?_; intro h H) | (refine Hp.st H 1 rfl rfl rfl rfl rfl ?_; intro h H) | (refine Hp.st H 2 rfl rfl rfl rfl rfl ?_; intro h H) | (refine Hp.st H 3 rfl rfl rfl rfl rfl ?_; intro h H) | (refine Hp.st H 4 rfl rfl rfl rfl rfl ?_; intro h H) | (refine Hp.st H 5 rfl rfl rfl rfl rfl ?_; intro h H) | refine Drawn.mk (by kernel_rfl) ?_ | refine WrapK.i64 (by omega) (by omega) ?_ | refine WrapK.u64 (by omega) (by omega) ?_ | refine WrapK.u32 (by omega) (by omega) ?_ | refine WrapK.u8 (by omega) (by omega) ?_ | refine iteT (by omega) ?_ | refine iteF (by omega) ?_ | refine iteET (by omega) ?_ | refine iteEF (by omega) ?_ | refine iteNT (by omega) ?_ | refine iteNF (by omega) ?_); conv => whnf)
  repeat (first | (refine FillK.row rfl ?_; conv => whnf) | (refine FillK.lit rfl ?_; conv => whnf))
  conv => whnf
  repeat ((first | refine cnd_intro (by first | (simp; done) | (simp; omega) | omega | (simp only [Bool.and_eq_true, decide_eq_true_eq]; omega)) ?_ | refine Hp.ld H 0 rfl rfl ?_ | refine Hp.ld H 1 rfl rfl ?_ | refine Hp.ld H 2 rfl rfl ?_ | refine Hp.ld H 3 rfl rfl ?_ | refine Hp.ld H 4 rfl rfl ?_ | refine Hp.ld H 5 rfl rfl ?_ | (refine Hp.st H 0 rfl rfl rfl rfl rfl ?_; intro h H) | (refine Hp.st H 1 rfl rfl rfl rfl rfl ?_; intro h H) | (refine Hp.st H 2 rfl rfl rfl rfl rfl ?_; intro h H) | (refine Hp.st H 3 rfl rfl rfl rfl rfl ?_; intro h H) | (refine Hp.st H 4 rfl rfl rfl rfl rfl ?_; intro h H) | (refine Hp.st H 5 rfl rfl rfl rfl rfl ?_; intro h H) | refine Drawn.mk (by kernel_rfl) ?_ | refine WrapK.i64 (by omega) (by omega) ?_ | refine WrapK.u64 (by omega) (by omega) ?_ | refine WrapK.u32 (by omega) (by omega) ?_ | refine WrapK.u8 (by omega) (by omega) ?_ | refine iteT (by omega) ?_ | refine iteF (by omega) ?_ | refine iteET (by omega) ?_ | refine iteEF (by omega) ?_ | refine iteNT (by omega) ?_ | refine iteNF (by omega) ?_); conv => whnf)
  refine CallK.mono (padd_call H 0 g (.slice none 0 0) [] rfl jF (by decide)) ?_
  rintro _ h5 ⟨ev, s1, P⟩
  rw [j_add] at ev P
  subst ev
  have HH : Hp h0 h5 (Res.pol g s1 [jF] bR bV bM 0 0 0 0 :: Res.mp pI Rul.enc bR [] :: Res.mp pI Vlv.enc bV [] :: Res.mp pI ptrV bM [] :: Res.bag [] :: Res.mss [] :: Res.ob g3 (.cells (jL.cells (.slice (some ⟨ge, 0, none⟩) 2 2)).toArray 24 (0, 0)) :: Res.ob ge (.cells (jL.es.flatMap Ent.cells).toArray 81 (0, 0)) :: Res.ob g2 (.cells jM.cells.toArray 60 (0, 0)) :: []) := P
  repeat clear H; clear P
  have H := HH
  clear HH
  conv => whnf
  repeat ((first | refine cnd_intro (by first | (simp; done) | (simp; omega) | omega | (simp only [Bool.and_eq_true, decide_eq_true_eq]; omega)) ?_ | refine Hp.ld H 0 rfl rfl ?_ | refine Hp.ld H 1 rfl rfl ?_ | refine Hp.ld H 2 rfl rfl ?_ | refine Hp.ld H 3 rfl rfl ?_ | refine Hp.ld H 4 rfl rfl ?_ | refine Hp.ld H 5 rfl rfl ?_ | (refine Hp.st H 0 rfl rfl rfl rfl rfl ?_; intro h H) | (refine Hp.st H 1 rfl rfl rfl rfl rfl ?_; intro h H) | (refine Hp.st H 2 rfl rfl rfl rfl rfl ?_; intro h H) | (refine Hp.st H 3 rfl rfl rfl rfl rfl ?_; intro h H) | (refine Hp.st H 4 rfl rfl rfl rfl rfl ?_; intro h H) | (refine Hp.st H 5 rfl rfl rfl rfl rfl ?_; intro h H) | refine Drawn.mk (by kernel_rfl) ?_ | refine WrapK.i64 (by omega) (by omega) ?_ | refine WrapK.u64 (by omega) (by omega) ?_ | refine WrapK.u32 (by omega) (by omega) ?_ | refine WrapK.u8 (by omega) (by omega) ?_ | refine iteT (by omega) ?_ | refine iteF (by omega) ?_ | refine iteET (by omega) ?_ | refine iteEF (by omega) ?_ | refine iteNT (by omega) ?_ | refine iteNF (by omega) ?_); conv => whnf)
  repeat (first | (refine FillK.row rfl ?_; conv => whnf) | (refine FillK.lit rfl ?_; conv => whnf))
  conv => whnf
  repeat ((first | refine cnd_intro (by first | (simp; done) | (simp; omega) | omega | (simp only [Bool.and_eq_true, decide_eq_true_eq]; omega)) ?_ | refine Hp.ld H 0 rfl rfl ?_ | refine Hp.ld H 1 rfl rfl ?_ | refine Hp.ld H 2 rfl rfl ?_ | refine Hp.ld H 3 rfl rfl ?_ | refine Hp.ld H 4 rfl rfl ?_ | refine Hp.ld H 5 rfl rfl ?_ | (refine Hp.st H 0 rfl rfl rfl rfl rfl ?_; intro h H) | (refine Hp.st H 1 rfl rfl rfl rfl rfl ?_; intro h H) | (refine Hp.st H 2 rfl rfl rfl rfl rfl ?_; intro h H) | (refine Hp.st H 3 rfl rfl rfl rfl rfl ?_; intro h H) | (refine Hp.st H 4 rfl rfl rfl rfl rfl ?_; intro h H) | (refine Hp.st H 5 rfl rfl rfl rfl rfl ?_; intro h H) | refine Drawn.mk (by kernel_rfl) ?_ | refine WrapK.i64 (by omega) (by omega) ?_ | refine WrapK.u64 (by omega) (by omega) ?_ | refine WrapK.u32 (by omega) (by omega) ?_ | refine WrapK.u8 (by omega) (by omega) ?_ | refine iteT (by omega) ?_ | refine iteF (by omega) ?_ | refine iteET (by omega) ?_ | refine iteEF (by omega) ?_ | refine iteNT (by omega) ?_ | refine iteNF (by omega) ?_); conv => whnf)
  refine CallK.mono (setrule_call H 3 ⟨0, 0, -1⟩ (fun x hx => by cases hx) (by decide)) ?_
  rintro _ h6 ⟨e, R1, hr, rfl, P⟩
  have hr2 := j_set1 hr
  obtain ⟨rfl, rfl⟩ := hr2
  clear hr
  have HH : Hp h0 h6 (Res.pol g s1 [jF] bR bV bM 0 0 0 0 :: Res.mp pI Rul.enc bR [] :: Res.mp pI Vlv.enc bV [] :: Res.mp pI ptrV bM [] :: Res.bag [] :: Res.mss [] :: Res.ob g3 (.cells (jL.cells (.slice (some ⟨ge, 0, none⟩) 2 2)).toArray 24 (0, 0)) :: Res.ob ge (.cells (jL.es.flatMap Ent.cells).toArray 81 (0, 0)) :: Res.ob g2 (.cells jM.cells.toArray 60 (0, 0)) :: []) := P
  repeat clear H; clear P
  have H := HH
  clear HH
  conv => whnf
  repeat ((first | refine cnd_intro (by first | (simp; done) | (simp; omega) | omega | (simp only [Bool.and_eq_true, decide_eq_true_eq]; omega)) ?_ | refine Hp.ld H 0 rfl rfl ?_ | refine Hp.ld H 1 rfl rfl ?_ | refine Hp.ld H 2 rfl rfl ?_ | refine Hp.ld H 3 rfl rfl ?_ | refine Hp.ld H 4 rfl rfl ?_ | refine Hp.ld H 5 rfl rfl ?_ | (refine Hp.st H 0 rfl rfl rfl rfl rfl ?_; intro h H) | (refine Hp.st H 1 rfl rfl rfl rfl rfl ?_; intro h H) | (refine Hp.st H 2 rfl rfl rfl rfl rfl ?_; intro h H) | (refine Hp.st H 3 rfl rfl rfl rfl rfl ?_; intro h H) | (refine Hp.st H 4 rfl rfl rfl rfl rfl ?_; intro h H) | (refine Hp.st H 5 rfl rfl rfl rfl rfl ?_; intro h H) | refine Drawn.mk (by kernel_rfl) ?_ | refine WrapK.i64 (by omega) (by omega) ?_ | refine WrapK.u64 (by omega) (by omega) ?_ | refine WrapK.u32 (by omega) (by omega) ?_ | refine WrapK.u8 (by omega) (by omega) ?_ | refine iteT (by omega) ?_ | refine iteF (by omega) ?_ | refine iteET (by omega) ?_ | refine iteEF (by omega) ?_ | refine iteNT (by omega) ?_ | refine iteNF (by omega) ?_); conv => whnf)
  refine Hp.ld H 6 rfl rfl ?_
  conv => whnf
  repeat ((first | refine cnd_intro (by first | (simp; done) | (simp; omega) | omega | (simp only [Bool.and_eq_true, decide_eq_true_eq]; omega)) ?_ | refine Hp.ld H 0 rfl rfl ?_ | refine Hp.ld H 1 rfl rfl ?_ | refine Hp.ld H 2 rfl rfl ?_ | refine Hp.ld H 3 rfl rfl ?_ | refine Hp.ld H 4 rfl rfl ?_ | refine Hp.ld H 5 rfl rfl ?_ | (refine Hp.st H 0 rfl rfl rfl rfl rfl ?_; intro h H) | (refine Hp.st H 1 rfl rfl rfl rfl rfl ?_; intro h H) | (refine Hp.st H 2 rfl rfl rfl rfl rfl ?_; intro h H) | (refine Hp.st H 3 rfl rfl rfl rfl rfl ?_; intro h H) | (refine Hp.st H 4 rfl rfl rfl rfl rfl ?_; intro h H) | (refine Hp.st H 5 rfl rfl rfl rfl rfl ?_; intro h H) | refine Drawn.mk (by kernel_rfl) ?_ | refine WrapK.i64 (by omega) (by omega) ?_ | refine WrapK.u64 (by omega) (by omega) ?_ | refine WrapK.u32 (by omega) (by omega) ?_ | refine WrapK.u8 (by omega) (by omega) ?_ | refine iteT (by omega) ?_ | refine iteF (by omega) ?_ | refine iteET (by omega) ?_ | refine iteEF (by omega) ?_ | refine iteNT (by omega) ?_ | refine iteNF (by omega) ?_); conv => whnf)
  repeat (first | (refine FillK.row rfl ?_; conv => whnf) | (refine FillK.lit rfl ?_; conv => whnf))
  conv => whnf
  repeat ((first | refine cnd_intro (by first | (simp; done) | (simp; omega) | omega | (simp only [Bool.and_eq_true, decide_eq_true_eq]; omega)) ?_ | refine Hp.ld H 0 rfl rfl ?_ | refine Hp.ld H 1 rfl rfl ?_ | refine Hp.ld H 2 rfl rfl ?_ | refine Hp.ld H 3 rfl rfl ?_ | refine Hp.ld H 4 rfl rfl ?_ | refine Hp.ld H 5 rfl rfl ?_ | (refine Hp.st H 0 rfl rfl rfl rfl rfl ?_; intro h H) | (refine Hp.st H 1 rfl rfl rfl rfl rfl ?_; intro h H) | (refine Hp.st H 2 rfl rfl rfl rfl rfl ?_; intro h H) | (refine Hp.st H 3 rfl rfl rfl rfl rfl ?_; intro h H) | (refine Hp.st H 4 rfl rfl rfl rfl rfl ?_; intro h H) | (refine Hp.st H 5 rfl rfl rfl rfl rfl ?_; intro h H) | refine Drawn.mk (by kernel_rfl) ?_ | refine WrapK.i64 (by omega) (by omega) ?_ | refine WrapK.u64 (by omega) (by omega) ?_ | refine WrapK.u32 (by omega) (by omega) ?_ | refine WrapK.u8 (by omega) (by omega) ?_ | refine iteT (by omega) ?_ | refine iteF (by omega) ?_ | refine iteET (by omega) ?_ | refine iteEF (by omega) ?_ | refine iteNT (by omega) ?_ | refine iteNF (by omega) ?_); conv => whnf)
  intro gc h7 N
  refine ⟨N.keep, ?_⟩
  replace H := H.new N
  clear N
  conv => whnf
  repeat ((first | refine cnd_intro (by first | (simp; done) | (simp; omega) | omega | (simp only [Bool.and_eq_true, decide_eq_true_eq]; omega)) ?_ | refine Hp.ld H 0 rfl rfl ?_ | refine Hp.ld H 1 rfl rfl ?_ | refine Hp.ld H 2 rfl rfl ?_ | refine Hp.ld H 3 rfl rfl ?_ | refine Hp.ld H 4 rfl rfl ?_ | refine Hp.ld H 5 rfl rfl ?_ | (refine Hp.st H 0 rfl rfl rfl rfl rfl ?_; intro h H) | (refine Hp.st H 1 rfl rfl rfl rfl rfl ?_; intro h H) | (refine Hp.st H 2 rfl rfl rfl rfl rfl ?_; intro h H) | (refine Hp.st H 3 rfl rfl rfl rfl rfl ?_; intro h H) | (refine Hp.st H 4 rfl rfl rfl rfl rfl ?_; intro h H) | (refine Hp.st H 5 rfl rfl rfl rfl rfl ?_; intro h H) | refine Drawn.mk (by kernel_rfl) ?_ | refine WrapK.i64 (by omega) (by omega) ?_ | refine WrapK.u64 (by omega) (by omega) ?_ | refine WrapK.u32 (by omega) (by omega) ?_ | refine WrapK.u8 (by omega) (by omega) ?_ | refine iteT (by omega) ?_ | refine iteF (by omega) ?_ | refine iteET (by omega) ?_ | refine iteEF (by omega) ?_ | refine iteNT (by omega) ?_ | refine iteNF (by omega) ?_); conv => whnf)
  have HH : Hp h0 _ (Res.ob gc (.cells (jC.flatMap cI).toArray 3 (0, 0)) :: Res.pol g s1 [jF] bR bV bM 0 0 0 0 :: Res.mp pI Rul.enc bR [] :: Res.mp pI Vlv.enc bV [] :: Res.mp pI ptrV bM [] :: Res.bag [] :: Res.mss [] :: Res.ob g3 (.cells (jL.cells (.slice (some ⟨ge, 0, none⟩) 2 2)).toArray 24 (0, 0)) :: Res.ob ge (.cells (jL.es.flatMap Ent.cells).toArray 81 (0, 0)) :: Res.ob g2 (.cells jM.cells.toArray 60 (0, 0)) :: []) := H
  repeat clear H
  have H := HH
  clear HH
  have HH : Hp h0 _ (Res.pol g s1 [jF] bR bV bM 0 0 0 0 :: Res.mp pI Rul.enc bR [] :: Res.mp pI Vlv.enc bV [] :: Res.mp pI ptrV bM [] :: Res.bag [] :: Res.mss [] :: Res.ob g3 (.cells (jL.cells (.slice (some ⟨ge, 0, none⟩) 2 2)).toArray 24 (0, 0)) :: Res.ob ge (.cells (jL.es.flatMap Ent.cells).toArray 81 (0, 0)) :: Res.ob g2 (.cells jM.cells.toArray 60 (0, 0)) :: Res.ob gc (.cells (jC.flatMap cI).toArray 3 (0, 0)) :: []) := H.sub ⟨[], by rw [List.append_nil]; exact List.perm_append_comm (l₁ := [_, _, _, _, _, _, _, _, _]) (l₂ := [_])⟩
  repeat clear H
  have H := HH
  clear HH
  have hE : EntsV _ (.slice (some ⟨ge, 0, none⟩) 2 2) jL.es := ents_of (H.get 7 rfl)
  have hC : IntsV _ (.slice (some ⟨gc, 0, none⟩) 2 2) jC := ints_of (H.get 9 rfl)
  refine CallK.mono (setgate_call H 0 jL _ _ jC hE hC (by decide) (by decide)) ?_
  rintro _ h8 ⟨e, V1, B1, hr, rfl, P⟩
  clear hE hC
  have hr2 := j_gate1 hr
  obtain ⟨rfl, s, vb, vo, vn, vc, rfl, rfl⟩ := hr2
  clear hr
  have HH : Hp h0 h8 (Res.pol g s1 [jF] bR bV bM 0 0 0 0 :: Res.mp pI Rul.enc bR [] :: Res.mp pI Vlv.enc bV [(0, ⟨jL, s, jC, .slice (some ⟨vb, vo, none⟩) vn vc⟩)] :: Res.mp pI ptrV bM [] :: Res.bag [⟨jL, s, jC, .slice (some ⟨vb, vo, none⟩) vn vc⟩] :: Res.mss [] :: Res.ob g3 (.cells (jL.cells (.slice (some ⟨ge, 0, none⟩) 2 2)).toArray 24 (0, 0)) :: Res.ob ge (.cells (jL.es.flatMap Ent.cells).toArray 81 (0, 0)) :: Res.ob g2 (.cells jM.cells.toArray 60 (0, 0)) :: Res.ob gc (.cells (jC.flatMap cI).toArray 3 (0, 0)) :: []) := P
  repeat clear H; clear P
  have H := HH
  clear HH
  conv => whnf
  repeat ((first | refine cnd_intro (by first | (simp; done) | (simp; omega) | omega | (simp only [Bool.and_eq_true, decide_eq_true_eq]; omega)) ?_ | refine Hp.ld H 0 rfl rfl ?_ | refine Hp.ld H 1 rfl rfl ?_ | refine Hp.ld H 2 rfl rfl ?_ | refine Hp.ld H 3 rfl rfl ?_ | refine Hp.ld H 4 rfl rfl ?_ | refine Hp.ld H 5 rfl rfl ?_ | (refine Hp.st H 0 rfl rfl rfl rfl rfl ?_; intro h H) | (refine Hp.st H 1 rfl rfl rfl rfl rfl ?_; intro h H) | (refine Hp.st H 2 rfl rfl rfl rfl rfl ?_; intro h H) | (refine Hp.st H 3 rfl rfl rfl rfl rfl ?_; intro h H) | (refine Hp.st H 4 rfl rfl rfl rfl rfl ?_; intro h H) | (refine Hp.st H 5 rfl rfl rfl rfl rfl ?_; intro h H) | refine Drawn.mk (by kernel_rfl) ?_ | refine WrapK.i64 (by omega) (by omega) ?_ | refine WrapK.u64 (by omega) (by omega) ?_ | refine WrapK.u32 (by omega) (by omega) ?_ | refine WrapK.u8 (by omega) (by omega) ?_ | refine iteT (by omega) ?_ | refine iteF (by omega) ?_ | refine iteET (by omega) ?_ | refine iteEF (by omega) ?_ | refine iteNT (by omega) ?_ | refine iteNF (by omega) ?_); conv => whnf)
  repeat (first | (refine FillK.row rfl ?_; conv => whnf) | (refine FillK.lit rfl ?_; conv => whnf))
  conv => whnf
  repeat ((first | refine cnd_intro (by first | (simp; done) | (simp; omega) | omega | (simp only [Bool.and_eq_true, decide_eq_true_eq]; omega)) ?_ | refine Hp.ld H 0 rfl rfl ?_ | refine Hp.ld H 1 rfl rfl ?_ | refine Hp.ld H 2 rfl rfl ?_ | refine Hp.ld H 3 rfl rfl ?_ | refine Hp.ld H 4 rfl rfl ?_ | refine Hp.ld H 5 rfl rfl ?_ | (refine Hp.st H 0 rfl rfl rfl rfl rfl ?_; intro h H) | (refine Hp.st H 1 rfl rfl rfl rfl rfl ?_; intro h H) | (refine Hp.st H 2 rfl rfl rfl rfl rfl ?_; intro h H) | (refine Hp.st H 3 rfl rfl rfl rfl rfl ?_; intro h H) | (refine Hp.st H 4 rfl rfl rfl rfl rfl ?_; intro h H) | (refine Hp.st H 5 rfl rfl rfl rfl rfl ?_; intro h H) | refine Drawn.mk (by kernel_rfl) ?_ | refine WrapK.i64 (by omega) (by omega) ?_ | refine WrapK.u64 (by omega) (by omega) ?_ | refine WrapK.u32 (by omega) (by omega) ?_ | refine WrapK.u8 (by omega) (by omega) ?_ | refine iteT (by omega) ?_ | refine iteF (by omega) ?_ | refine iteET (by omega) ?_ | refine iteEF (by omega) ?_ | refine iteNT (by omega) ?_ | refine iteNF (by omega) ?_); conv => whnf)
  have HH : Hp h0 _ (Res.pol g s1 [jF] bR bV bM 0 0 0 0 :: Res.mp pI Rul.enc bR [] :: Res.mp pI Vlv.enc bV [(0, ⟨jL, s, jC, .slice (some ⟨vb, vo, none⟩) vn vc⟩)] :: Res.mp pI ptrV bM [] :: Res.mss [] :: Res.bag [⟨jL, s, jC, .slice (some ⟨vb, vo, none⟩) vn vc⟩] :: Res.ob g3 (.cells (jL.cells (.slice (some ⟨ge, 0, none⟩) 2 2)).toArray 24 (0, 0)) :: Res.ob ge (.cells (jL.es.flatMap Ent.cells).toArray 81 (0, 0)) :: Res.ob g2 (.cells jM.cells.toArray 60 (0, 0)) :: Res.ob gc (.cells (jC.flatMap cI).toArray 3 (0, 0)) :: []) := H.sub ⟨[], by rw [List.append_nil]; exact List.Perm.cons _ (List.Perm.cons _ (List.Perm.cons _ (List.Perm.cons _ (List.Perm.swap _ _ _))))⟩
  repeat clear H
  have H := HH
  clear HH
  refine CallK.mono (setmeter_call H 1 0 100 0 100) ?_
  rintro _ h9 ⟨e, M1, X1, hr, rfl, P⟩
  have hr2 := j_meter1 hr
  obtain ⟨rfl, b, rfl, rfl⟩ := hr2
  clear hr
  have HH : Hp h0 h9 (Res.pol g s1 [jF] bR bV bM 0 0 0 0 :: Res.mp pI Rul.enc bR [] :: Res.mp pI Vlv.enc bV [(0, ⟨jL, s, jC, .slice (some ⟨vb, vo, none⟩) vn vc⟩)] :: Res.mp pI ptrV bM [(1, b)] :: Res.mss [(b, jM0)] :: Res.bag [⟨jL, s, jC, .slice (some ⟨vb, vo, none⟩) vn vc⟩] :: Res.ob g3 (.cells (jL.cells (.slice (some ⟨ge, 0, none⟩) 2 2)).toArray 24 (0, 0)) :: Res.ob ge (.cells (jL.es.flatMap Ent.cells).toArray 81 (0, 0)) :: Res.ob g2 (.cells jM.cells.toArray 60 (0, 0)) :: Res.ob gc (.cells (jC.flatMap cI).toArray 3 (0, 0)) :: []) := P
  repeat clear H; clear P
  have H := HH
  clear HH
  have HH : Hp h0 _ (Res.pol g s1 [jF] bR bV bM 0 0 0 0 :: Res.mp pI Rul.enc bR [] :: Res.mp pI Vlv.enc bV [(0, ⟨jL, s, jC, .slice (some ⟨vb, vo, none⟩) vn vc⟩)] :: Res.mp pI ptrV bM [(1, b)] :: Res.bag [⟨jL, s, jC, .slice (some ⟨vb, vo, none⟩) vn vc⟩] :: Res.mss [(b, jM0)] :: Res.ob g3 (.cells (jL.cells (.slice (some ⟨ge, 0, none⟩) 2 2)).toArray 24 (0, 0)) :: Res.ob ge (.cells (jL.es.flatMap Ent.cells).toArray 81 (0, 0)) :: Res.ob g2 (.cells jM.cells.toArray 60 (0, 0)) :: Res.ob gc (.cells (jC.flatMap cI).toArray 3 (0, 0)) :: []) := H.sub ⟨[], by rw [List.append_nil]; exact List.Perm.cons _ (List.Perm.cons _ (List.Perm.cons _ (List.Perm.cons _ (List.Perm.swap _ _ _))))⟩
  repeat clear H
  have H := HH
  clear HH
  conv => whnf
  repeat ((first | refine cnd_intro (by first | (simp; done) | (simp; omega) | omega | (simp only [Bool.and_eq_true, decide_eq_true_eq]; omega)) ?_ | refine Hp.ld H 0 rfl rfl ?_ | refine Hp.ld H 1 rfl rfl ?_ | refine Hp.ld H 2 rfl rfl ?_ | refine Hp.ld H 3 rfl rfl ?_ | refine Hp.ld H 4 rfl rfl ?_ | refine Hp.ld H 5 rfl rfl ?_ | (refine Hp.st H 0 rfl rfl rfl rfl rfl ?_; intro h H) | (refine Hp.st H 1 rfl rfl rfl rfl rfl ?_; intro h H) | (refine Hp.st H 2 rfl rfl rfl rfl rfl ?_; intro h H) | (refine Hp.st H 3 rfl rfl rfl rfl rfl ?_; intro h H) | (refine Hp.st H 4 rfl rfl rfl rfl rfl ?_; intro h H) | (refine Hp.st H 5 rfl rfl rfl rfl rfl ?_; intro h H) | refine Drawn.mk (by kernel_rfl) ?_ | refine WrapK.i64 (by omega) (by omega) ?_ | refine WrapK.u64 (by omega) (by omega) ?_ | refine WrapK.u32 (by omega) (by omega) ?_ | refine WrapK.u8 (by omega) (by omega) ?_ | refine iteT (by omega) ?_ | refine iteF (by omega) ?_ | refine iteET (by omega) ?_ | refine iteEF (by omega) ?_ | refine iteNT (by omega) ?_ | refine iteNF (by omega) ?_); conv => whnf)
  repeat (first | (refine FillK.row rfl ?_; conv => whnf) | (refine FillK.lit rfl ?_; conv => whnf))
  conv => whnf
  repeat ((first | refine cnd_intro (by first | (simp; done) | (simp; omega) | omega | (simp only [Bool.and_eq_true, decide_eq_true_eq]; omega)) ?_ | refine Hp.ld H 0 rfl rfl ?_ | refine Hp.ld H 1 rfl rfl ?_ | refine Hp.ld H 2 rfl rfl ?_ | refine Hp.ld H 3 rfl rfl ?_ | refine Hp.ld H 4 rfl rfl ?_ | refine Hp.ld H 5 rfl rfl ?_ | (refine Hp.st H 0 rfl rfl rfl rfl rfl ?_; intro h H) | (refine Hp.st H 1 rfl rfl rfl rfl rfl ?_; intro h H) | (refine Hp.st H 2 rfl rfl rfl rfl rfl ?_; intro h H) | (refine Hp.st H 3 rfl rfl rfl rfl rfl ?_; intro h H) | (refine Hp.st H 4 rfl rfl rfl rfl rfl ?_; intro h H) | (refine Hp.st H 5 rfl rfl rfl rfl rfl ?_; intro h H) | refine Drawn.mk (by kernel_rfl) ?_ | refine WrapK.i64 (by omega) (by omega) ?_ | refine WrapK.u64 (by omega) (by omega) ?_ | refine WrapK.u32 (by omega) (by omega) ?_ | refine WrapK.u8 (by omega) (by omega) ?_ | refine iteT (by omega) ?_ | refine iteF (by omega) ?_ | refine iteET (by omega) ?_ | refine iteEF (by omega) ?_ | refine iteNT (by omega) ?_ | refine iteNF (by omega) ?_); conv => whnf)
  refine CallK.mono (setrule_call H 3 jR (fun x hx => by rw [List.mem_singleton.1 hx]; exact ⟨_, _, _, _, rfl⟩) (by decide)) ?_
  rintro _ h10 ⟨e, R1, hr, rfl, P⟩
  have hr2 := j_set2 hr
  obtain ⟨rfl, rfl⟩ := hr2
  clear hr
  have HH : Hp h0 h10 (Res.pol g s1 [jF] bR bV bM 0 0 0 0 :: Res.mp pI Rul.enc bR [(3, jR)] :: Res.mp pI Vlv.enc bV [(0, ⟨jL, s, jC, .slice (some ⟨vb, vo, none⟩) vn vc⟩)] :: Res.mp pI ptrV bM [(1, b)] :: Res.bag [⟨jL, s, jC, .slice (some ⟨vb, vo, none⟩) vn vc⟩] :: Res.mss [(b, jM0)] :: Res.ob g3 (.cells (jL.cells (.slice (some ⟨ge, 0, none⟩) 2 2)).toArray 24 (0, 0)) :: Res.ob ge (.cells (jL.es.flatMap Ent.cells).toArray 81 (0, 0)) :: Res.ob g2 (.cells jM.cells.toArray 60 (0, 0)) :: Res.ob gc (.cells (jC.flatMap cI).toArray 3 (0, 0)) :: []) := P
  repeat clear H; clear P
  have H := HH
  clear HH
  conv => whnf
  repeat ((first | refine cnd_intro (by first | (simp; done) | (simp; omega) | omega | (simp only [Bool.and_eq_true, decide_eq_true_eq]; omega)) ?_ | refine Hp.ld H 0 rfl rfl ?_ | refine Hp.ld H 1 rfl rfl ?_ | refine Hp.ld H 2 rfl rfl ?_ | refine Hp.ld H 3 rfl rfl ?_ | refine Hp.ld H 4 rfl rfl ?_ | refine Hp.ld H 5 rfl rfl ?_ | (refine Hp.st H 0 rfl rfl rfl rfl rfl ?_; intro h H) | (refine Hp.st H 1 rfl rfl rfl rfl rfl ?_; intro h H) | (refine Hp.st H 2 rfl rfl rfl rfl rfl ?_; intro h H) | (refine Hp.st H 3 rfl rfl rfl rfl rfl ?_; intro h H) | (refine Hp.st H 4 rfl rfl rfl rfl rfl ?_; intro h H) | (refine Hp.st H 5 rfl rfl rfl rfl rfl ?_; intro h H) | refine Drawn.mk (by kernel_rfl) ?_ | refine WrapK.i64 (by omega) (by omega) ?_ | refine WrapK.u64 (by omega) (by omega) ?_ | refine WrapK.u32 (by omega) (by omega) ?_ | refine WrapK.u8 (by omega) (by omega) ?_ | refine iteT (by omega) ?_ | refine iteF (by omega) ?_ | refine iteET (by omega) ?_ | refine iteEF (by omega) ?_ | refine iteNT (by omega) ?_ | refine iteNF (by omega) ?_); conv => whnf)
  refine Hp.ld H 8 rfl rfl ?_
  conv => whnf
  repeat ((first | refine cnd_intro (by first | (simp; done) | (simp; omega) | omega | (simp only [Bool.and_eq_true, decide_eq_true_eq]; omega)) ?_ | refine Hp.ld H 0 rfl rfl ?_ | refine Hp.ld H 1 rfl rfl ?_ | refine Hp.ld H 2 rfl rfl ?_ | refine Hp.ld H 3 rfl rfl ?_ | refine Hp.ld H 4 rfl rfl ?_ | refine Hp.ld H 5 rfl rfl ?_ | (refine Hp.st H 0 rfl rfl rfl rfl rfl ?_; intro h H) | (refine Hp.st H 1 rfl rfl rfl rfl rfl ?_; intro h H) | (refine Hp.st H 2 rfl rfl rfl rfl rfl ?_; intro h H) | (refine Hp.st H 3 rfl rfl rfl rfl rfl ?_; intro h H) | (refine Hp.st H 4 rfl rfl rfl rfl rfl ?_; intro h H) | (refine Hp.st H 5 rfl rfl rfl rfl rfl ?_; intro h H) | refine Drawn.mk (by kernel_rfl) ?_ | refine WrapK.i64 (by omega) (by omega) ?_ | refine WrapK.u64 (by omega) (by omega) ?_ | refine WrapK.u32 (by omega) (by omega) ?_ | refine WrapK.u8 (by omega) (by omega) ?_ | refine iteT (by omega) ?_ | refine iteF (by omega) ?_ | refine iteET (by omega) ?_ | refine iteEF (by omega) ?_ | refine iteNT (by omega) ?_ | refine iteNF (by omega) ?_); conv => whnf)
  repeat (first | (refine FillK.row rfl ?_; conv => whnf) | (refine FillK.lit rfl ?_; conv => whnf))
  conv => whnf
  repeat ((first | refine cnd_intro (by first | (simp; done) | (simp; omega) | omega | (simp only [Bool.and_eq_true, decide_eq_true_eq]; omega)) ?_ | refine Hp.ld H 0 rfl rfl ?_ | refine Hp.ld H 1 rfl rfl ?_ | refine Hp.ld H 2 rfl rfl ?_ | refine Hp.ld H 3 rfl rfl ?_ | refine Hp.ld H 4 rfl rfl ?_ | refine Hp.ld H 5 rfl rfl ?_ | (refine Hp.st H 0 rfl rfl rfl rfl rfl ?_; intro h H) | (refine Hp.st H 1 rfl rfl rfl rfl rfl ?_; intro h H) | (refine Hp.st H 2 rfl rfl rfl rfl rfl ?_; intro h H) | (refine Hp.st H 3 rfl rfl rfl rfl rfl ?_; intro h H) | (refine Hp.st H 4 rfl rfl rfl rfl rfl ?_; intro h H) | (refine Hp.st H 5 rfl rfl rfl rfl rfl ?_; intro h H) | refine Drawn.mk (by kernel_rfl) ?_ | refine WrapK.i64 (by omega) (by omega) ?_ | refine WrapK.u64 (by omega) (by omega) ?_ | refine WrapK.u32 (by omega) (by omega) ?_ | refine WrapK.u8 (by omega) (by omega) ?_ | refine iteT (by omega) ?_ | refine iteF (by omega) ?_ | refine iteET (by omega) ?_ | refine iteEF (by omega) ?_ | refine iteNT (by omega) ?_ | refine iteNF (by omega) ?_); conv => whnf)
  intro g4 h11 N
  replace H := H.new N
  clear N
  conv => whnf
  repeat ((first | refine cnd_intro (by first | (simp; done) | (simp; omega) | omega | (simp only [Bool.and_eq_true, decide_eq_true_eq]; omega)) ?_ | refine Hp.ld H 0 rfl rfl ?_ | refine Hp.ld H 1 rfl rfl ?_ | refine Hp.ld H 2 rfl rfl ?_ | refine Hp.ld H 3 rfl rfl ?_ | refine Hp.ld H 4 rfl rfl ?_ | refine Hp.ld H 5 rfl rfl ?_ | (refine Hp.st H 0 rfl rfl rfl rfl rfl ?_; intro h H) | (refine Hp.st H 1 rfl rfl rfl rfl rfl ?_; intro h H) | (refine Hp.st H 2 rfl rfl rfl rfl rfl ?_; intro h H) | (refine Hp.st H 3 rfl rfl rfl rfl rfl ?_; intro h H) | (refine Hp.st H 4 rfl rfl rfl rfl rfl ?_; intro h H) | (refine Hp.st H 5 rfl rfl rfl rfl rfl ?_; intro h H) | (intro b h N; replace H := Hp.new H N; clear N) | refine FillK.row rfl ?_ | refine FillK.lit rfl ?_ | refine WrapK.i64 (by omega) (by omega) ?_ | refine WrapK.u64 (by omega) (by omega) ?_ | refine WrapK.u32 (by omega) (by omega) ?_ | refine WrapK.u8 (by omega) (by omega) ?_ | refine iteT (by omega) ?_ | refine iteF (by omega) ?_ | refine iteET (by omega) ?_ | refine iteEF (by omega) ?_ | refine iteNT (by omega) ?_ | refine iteNF (by omega) ?_); conv => whnf)
  have HH : Hp h0 _ (Res.ob g4 (.cells jH.cells.toArray 67 (0, 0)) :: Res.pol g s1 [jF] bR bV bM 0 0 0 0 :: Res.mp pI Rul.enc bR [(3, jR)] :: Res.mp pI Vlv.enc bV [(0, ⟨jL, s, jC, .slice (some ⟨vb, vo, none⟩) vn vc⟩)] :: Res.mp pI ptrV bM [(1, b)] :: Res.bag [⟨jL, s, jC, .slice (some ⟨vb, vo, none⟩) vn vc⟩] :: Res.mss [(b, jM0)] :: Res.ob g3 (.cells (jL.cells (.slice (some ⟨ge, 0, none⟩) 2 2)).toArray 24 (0, 0)) :: Res.ob ge (.cells (jL.es.flatMap Ent.cells).toArray 81 (0, 0)) :: Res.ob g2 (.cells jM.cells.toArray 60 (0, 0)) :: Res.ob gc (.cells (jC.flatMap cI).toArray 3 (0, 0)) :: []) := H
  repeat clear H
  have H := HH
  clear HH
  refine Drawn.keys [0, 3, 6, 9] [(1, []), (2, [1]), (4, []), (5, [1, 2, 4]), (7, []), (8, [1, 2, 4, 5, 7]), (10, []), (11, [1, 2, 4, 5, 7, 8, 10]), (12, []), (13, []), (14, []), (15, [])] [16, 17, 18, 19] (by kernel_rfl) ?_
  conv => whnf
  repeat ((first | refine cnd_intro (by first | (simp; done) | (simp; omega) | omega | (simp only [Bool.and_eq_true, decide_eq_true_eq]; omega)) ?_ | refine Hp.ld H 0 rfl rfl ?_ | refine Hp.ld H 1 rfl rfl ?_ | refine Hp.ld H 2 rfl rfl ?_ | refine Hp.ld H 3 rfl rfl ?_ | refine Hp.ld H 4 rfl rfl ?_ | refine Hp.ld H 5 rfl rfl ?_ | (refine Hp.st H 0 rfl rfl rfl rfl rfl ?_; intro h H) | (refine Hp.st H 1 rfl rfl rfl rfl rfl ?_; intro h H) | (refine Hp.st H 2 rfl rfl rfl rfl rfl ?_; intro h H) | (refine Hp.st H 3 rfl rfl rfl rfl rfl ?_; intro h H) | (refine Hp.st H 4 rfl rfl rfl rfl rfl ?_; intro h H) | (refine Hp.st H 5 rfl rfl rfl rfl rfl ?_; intro h H) | refine Drawn.mk (by kernel_rfl) ?_ | refine WrapK.i64 (by omega) (by omega) ?_ | refine WrapK.u64 (by omega) (by omega) ?_ | refine WrapK.u32 (by omega) (by omega) ?_ | refine WrapK.u8 (by omega) (by omega) ?_ | refine iteT (by omega) ?_ | refine iteF (by omega) ?_ | refine iteET (by omega) ?_ | refine iteEF (by omega) ?_ | refine iteNT (by omega) ?_ | refine iteNF (by omega) ?_); conv => whnf)
  refine ⟨fun D val h => ∃ n, n ≤ 4 ∧ (D 2 = decide (1 ≤ n)) ∧ (D 5 = decide (2 ≤ n)) ∧ (D 8 = decide (3 ≤ n)) ∧ (D 11 = decide (4 ≤ n)) ∧ (D 1 = true → val 1 = .agg jH.cells.toArray) ∧ (D 4 = true → val 4 = .agg jH.cells.toArray) ∧ (D 7 = true → val 7 = .agg jH.cells.toArray) ∧ (D 10 = true → val 10 = .agg jH.cells.toArray) ∧ (D 2 = true → val 2 = .agg (Vd.cells (jv 0)).toArray) ∧ (D 5 = true → val 5 = .agg (Vd.cells (jv 1)).toArray) ∧ (D 8 = true → val 8 = .agg (Vd.cells (jv 2)).toArray) ∧ (D 11 = true → val 11 = .agg (Vd.cells (jv 3)).toArray) ∧ Hp h0 h (Res.opt (D 12) (Res.via ptrM (val 12) fun q => Res.ob q (.cells (Vd.cells ⟨0, 0, 0, false⟩).toArray 69 (0, 0))) :: Res.opt (D 13) (Res.via ptrM (val 13) fun q => Res.ob q (.cells (Vd.cells ⟨0, 0, 0, false⟩).toArray 69 (0, 0))) :: Res.opt (D 14) (Res.via ptrM (val 14) fun q => Res.ob q (.cells (Vd.cells ⟨0, 0, 0, false⟩).toArray 69 (0, 0))) :: Res.opt (D 15) (Res.via ptrM (val 15) fun q => Res.ob q (.cells (Vd.cells ⟨0, 0, 0, false⟩).toArray 69 (0, 0))) :: Res.ob g4 (.cells jH.cells.toArray 67 (0, 0)) :: Res.pol g s1 [jF] bR bV bM (jk0 n) (jk1 n) (jk2 n) 0 :: Res.mp pI Rul.enc bR [(3, jR)] :: Res.mp pI Vlv.enc bV [(0, ⟨jL, s, jC, .slice (some ⟨vb, vo, none⟩) vn vc⟩)] :: Res.mp pI ptrV bM [(1, b)] :: Res.bag [⟨jL, s, jC, .slice (some ⟨vb, vo, none⟩) vn vc⟩] :: Res.mss [(b, jm n)] :: Res.ob g3 (.cells (jL.cells (.slice (some ⟨ge, 0, none⟩) 2 2)).toArray 24 (0, 0)) :: Res.ob ge (.cells (jL.es.flatMap Ent.cells).toArray 81 (0, 0)) :: Res.ob g2 (.cells jM.cells.toArray 60 (0, 0)) :: Res.ob gc (.cells (jC.flatMap cI).toArray 3 (0, 0)) :: []),
    fun _ => .bool false, ⟨0, by omega, rfl, rfl, rfl, rfl, fun h => absurd (show false = true from h) (by decide), fun h => absurd (show false = true from h) (by decide), fun h => absurd (show false = true from h) (by decide), fun h => absurd (show false = true from h) (by decide), fun h => absurd (show false = true from h) (by decide), fun h => absurd (show false = true from h) (by decide), fun h => absurd (show false = true from h) (by decide), fun h => absurd (show false = true from h) (by decide), H.emp.emp.emp.emp⟩, And.intro ?_ (And.intro ?_ (And.intro ?_ (And.intro ?_ (And.intro ?_ (And.intro ?_ (And.intro ?_ (And.intro ?_ (And.intro ?_ (And.intro ?_ (And.intro ?_ (And.intro ?_ (trivial)))))))))))), ?_⟩
  · rintro D val h ⟨n, hn, d2, d5, d8, d11, v1, v4, v7, v10, w2, w5, w8, w11, H⟩
    conv => whnf
    refine Hp.ld H 4 rfl rfl ?_
    exact ⟨n, hn, d2, d5, d8, d11, fun _ => rfl, v4, v7, v10, w2, w5, w8, w11, H⟩
  · rintro D val h ⟨n, hn, d2, d5, d8, d11, v1, v4, v7, v10, w2, w5, w8, w11, H⟩
    have e0 : n = 0 := by
      have q0 : ¬ 1 ≤ n := of_decide_eq_false (d2.symm.trans rfl)
      have q1 : ¬ 2 ≤ n := of_decide_eq_false (d5.symm.trans rfl)
      have q2 : ¬ 3 ≤ n := of_decide_eq_false (d8.symm.trans rfl)
      have q3 : ¬ 4 ≤ n := of_decide_eq_false (d11.symm.trans rfl)
      omega
    subst e0
    conv => whnf
    rw [v1 rfl]
    have HH : Hp h0 h (Res.pol g s1 [jF] bR bV bM (jk0 0) (jk1 0) (jk2 0) 0 :: Res.mp pI Rul.enc bR [(3, jR)] :: Res.mp pI Vlv.enc bV [(0, ⟨jL, s, jC, .slice (some ⟨vb, vo, none⟩) vn vc⟩)] :: Res.mp pI ptrV bM [(1, b)] :: Res.bag [⟨jL, s, jC, .slice (some ⟨vb, vo, none⟩) vn vc⟩] :: Res.mss [(b, jm 0)] :: Res.opt (D 12) (Res.via ptrM (val 12) fun q => Res.ob q (.cells (Vd.cells ⟨0, 0, 0, false⟩).toArray 69 (0, 0))) :: Res.opt (D 13) (Res.via ptrM (val 13) fun q => Res.ob q (.cells (Vd.cells ⟨0, 0, 0, false⟩).toArray 69 (0, 0))) :: Res.opt (D 14) (Res.via ptrM (val 14) fun q => Res.ob q (.cells (Vd.cells ⟨0, 0, 0, false⟩).toArray 69 (0, 0))) :: Res.opt (D 15) (Res.via ptrM (val 15) fun q => Res.ob q (.cells (Vd.cells ⟨0, 0, 0, false⟩).toArray 69 (0, 0))) :: Res.ob g4 (.cells jH.cells.toArray 67 (0, 0)) :: Res.ob g3 (.cells (jL.cells (.slice (some ⟨ge, 0, none⟩) 2 2)).toArray 24 (0, 0)) :: Res.ob ge (.cells (jL.es.flatMap Ent.cells).toArray 81 (0, 0)) :: Res.ob g2 (.cells jM.cells.toArray 60 (0, 0)) :: Res.ob gc (.cells (jC.flatMap cI).toArray 3 (0, 0)) :: []) := H.sub ⟨[], by rw [List.append_nil]; exact List.perm_append_comm (l₁ := [_, _, _, _, _, _]) (l₂ := [_, _, _, _, _]) |>.append_right [_, _, _, _]⟩
    repeat clear H
    have H := HH
    clear HH
    refine CallK.mono (judge_call H jH 1 80 2 10 (by decide) (jrule_ok s _ b jM0_ok) (by decide) (by decide) (by decide) (by decide) (by decide)) ?_
    rintro _ h2 ⟨e, d1, X1, hj, rfl, P⟩
    have hj2 := j_step0 s _ hj
    obtain ⟨rfl, rfl, rfl⟩ := hj2
    clear hj
    have HH : Hp h0 h2 (Res.pol g s1 [jF] bR bV bM (jk0 1) (jk1 1) (jk2 1) 0 :: Res.mp pI Rul.enc bR [(3, jR)] :: Res.mp pI Vlv.enc bV [(0, ⟨jL, s, jC, .slice (some ⟨vb, vo, none⟩) vn vc⟩)] :: Res.mp pI ptrV bM [(1, b)] :: Res.bag [⟨jL, s, jC, .slice (some ⟨vb, vo, none⟩) vn vc⟩] :: Res.mss [(b, jm 1)] :: Res.opt (D 12) (Res.via ptrM (val 12) fun q => Res.ob q (.cells (Vd.cells ⟨0, 0, 0, false⟩).toArray 69 (0, 0))) :: Res.opt (D 13) (Res.via ptrM (val 13) fun q => Res.ob q (.cells (Vd.cells ⟨0, 0, 0, false⟩).toArray 69 (0, 0))) :: Res.opt (D 14) (Res.via ptrM (val 14) fun q => Res.ob q (.cells (Vd.cells ⟨0, 0, 0, false⟩).toArray 69 (0, 0))) :: Res.opt (D 15) (Res.via ptrM (val 15) fun q => Res.ob q (.cells (Vd.cells ⟨0, 0, 0, false⟩).toArray 69 (0, 0))) :: Res.ob g4 (.cells jH.cells.toArray 67 (0, 0)) :: Res.ob g3 (.cells (jL.cells (.slice (some ⟨ge, 0, none⟩) 2 2)).toArray 24 (0, 0)) :: Res.ob ge (.cells (jL.es.flatMap Ent.cells).toArray 81 (0, 0)) :: Res.ob g2 (.cells jM.cells.toArray 60 (0, 0)) :: Res.ob gc (.cells (jC.flatMap cI).toArray 3 (0, 0)) :: []) := P
    repeat clear H
    clear P
    have H := HH
    clear HH
    have HH : Hp h0 h2 (Res.opt (D 12) (Res.via ptrM (val 12) fun q => Res.ob q (.cells (Vd.cells ⟨0, 0, 0, false⟩).toArray 69 (0, 0))) :: Res.opt (D 13) (Res.via ptrM (val 13) fun q => Res.ob q (.cells (Vd.cells ⟨0, 0, 0, false⟩).toArray 69 (0, 0))) :: Res.opt (D 14) (Res.via ptrM (val 14) fun q => Res.ob q (.cells (Vd.cells ⟨0, 0, 0, false⟩).toArray 69 (0, 0))) :: Res.opt (D 15) (Res.via ptrM (val 15) fun q => Res.ob q (.cells (Vd.cells ⟨0, 0, 0, false⟩).toArray 69 (0, 0))) :: Res.ob g4 (.cells jH.cells.toArray 67 (0, 0)) :: Res.pol g s1 [jF] bR bV bM (jk0 1) (jk1 1) (jk2 1) 0 :: Res.mp pI Rul.enc bR [(3, jR)] :: Res.mp pI Vlv.enc bV [(0, ⟨jL, s, jC, .slice (some ⟨vb, vo, none⟩) vn vc⟩)] :: Res.mp pI ptrV bM [(1, b)] :: Res.bag [⟨jL, s, jC, .slice (some ⟨vb, vo, none⟩) vn vc⟩] :: Res.mss [(b, jm 1)] :: Res.ob g3 (.cells (jL.cells (.slice (some ⟨ge, 0, none⟩) 2 2)).toArray 24 (0, 0)) :: Res.ob ge (.cells (jL.es.flatMap Ent.cells).toArray 81 (0, 0)) :: Res.ob g2 (.cells jM.cells.toArray 60 (0, 0)) :: Res.ob gc (.cells (jC.flatMap cI).toArray 3 (0, 0)) :: []) := H.sub ⟨[], by rw [List.append_nil]; exact List.perm_append_comm (l₁ := [_, _, _, _, _]) (l₂ := [_, _, _, _, _, _]) |>.append_right [_, _, _, _]⟩
    clear H
    exact ⟨1, by omega, rfl, d5.trans (by decide), d8.trans (by decide), d11.trans (by decide), v1, v4, v7, v10, fun _ => rfl, w5, w8, w11, HH⟩
  · rintro D val h ⟨n, hn, d2, d5, d8, d11, v1, v4, v7, v10, w2, w5, w8, w11, H⟩
    conv => whnf
    refine Hp.ld H 4 rfl rfl ?_
    exact ⟨n, hn, d2, d5, d8, d11, v1, fun _ => rfl, v7, v10, w2, w5, w8, w11, H⟩
  · rintro D val h ⟨n, hn, d2, d5, d8, d11, v1, v4, v7, v10, w2, w5, w8, w11, H⟩
    have e0 : n = 1 := by
      have q0 : 1 ≤ n := of_decide_eq_true (d2.symm.trans rfl)
      have q1 : ¬ 2 ≤ n := of_decide_eq_false (d5.symm.trans rfl)
      have q2 : ¬ 3 ≤ n := of_decide_eq_false (d8.symm.trans rfl)
      have q3 : ¬ 4 ≤ n := of_decide_eq_false (d11.symm.trans rfl)
      omega
    subst e0
    conv => whnf
    rw [v4 rfl]
    have HH : Hp h0 h (Res.pol g s1 [jF] bR bV bM (jk0 1) (jk1 1) (jk2 1) 0 :: Res.mp pI Rul.enc bR [(3, jR)] :: Res.mp pI Vlv.enc bV [(0, ⟨jL, s, jC, .slice (some ⟨vb, vo, none⟩) vn vc⟩)] :: Res.mp pI ptrV bM [(1, b)] :: Res.bag [⟨jL, s, jC, .slice (some ⟨vb, vo, none⟩) vn vc⟩] :: Res.mss [(b, jm 1)] :: Res.opt (D 12) (Res.via ptrM (val 12) fun q => Res.ob q (.cells (Vd.cells ⟨0, 0, 0, false⟩).toArray 69 (0, 0))) :: Res.opt (D 13) (Res.via ptrM (val 13) fun q => Res.ob q (.cells (Vd.cells ⟨0, 0, 0, false⟩).toArray 69 (0, 0))) :: Res.opt (D 14) (Res.via ptrM (val 14) fun q => Res.ob q (.cells (Vd.cells ⟨0, 0, 0, false⟩).toArray 69 (0, 0))) :: Res.opt (D 15) (Res.via ptrM (val 15) fun q => Res.ob q (.cells (Vd.cells ⟨0, 0, 0, false⟩).toArray 69 (0, 0))) :: Res.ob g4 (.cells jH.cells.toArray 67 (0, 0)) :: Res.ob g3 (.cells (jL.cells (.slice (some ⟨ge, 0, none⟩) 2 2)).toArray 24 (0, 0)) :: Res.ob ge (.cells (jL.es.flatMap Ent.cells).toArray 81 (0, 0)) :: Res.ob g2 (.cells jM.cells.toArray 60 (0, 0)) :: Res.ob gc (.cells (jC.flatMap cI).toArray 3 (0, 0)) :: []) := H.sub ⟨[], by rw [List.append_nil]; exact List.perm_append_comm (l₁ := [_, _, _, _, _, _]) (l₂ := [_, _, _, _, _]) |>.append_right [_, _, _, _]⟩
    repeat clear H
    have H := HH
    clear HH
    refine CallK.mono (judge_call H jH 1 91 2 10 (by decide) (jrule_ok s _ b jM1_ok) (by decide) (by decide) (by decide) (by decide) (by decide)) ?_
    rintro _ h2 ⟨e, d1, X1, hj, rfl, P⟩
    have hj2 := j_step1 s _ hj
    obtain ⟨rfl, rfl, rfl⟩ := hj2
    clear hj
    have HH : Hp h0 h2 (Res.pol g s1 [jF] bR bV bM (jk0 2) (jk1 2) (jk2 2) 0 :: Res.mp pI Rul.enc bR [(3, jR)] :: Res.mp pI Vlv.enc bV [(0, ⟨jL, s, jC, .slice (some ⟨vb, vo, none⟩) vn vc⟩)] :: Res.mp pI ptrV bM [(1, b)] :: Res.bag [⟨jL, s, jC, .slice (some ⟨vb, vo, none⟩) vn vc⟩] :: Res.mss [(b, jm 2)] :: Res.opt (D 12) (Res.via ptrM (val 12) fun q => Res.ob q (.cells (Vd.cells ⟨0, 0, 0, false⟩).toArray 69 (0, 0))) :: Res.opt (D 13) (Res.via ptrM (val 13) fun q => Res.ob q (.cells (Vd.cells ⟨0, 0, 0, false⟩).toArray 69 (0, 0))) :: Res.opt (D 14) (Res.via ptrM (val 14) fun q => Res.ob q (.cells (Vd.cells ⟨0, 0, 0, false⟩).toArray 69 (0, 0))) :: Res.opt (D 15) (Res.via ptrM (val 15) fun q => Res.ob q (.cells (Vd.cells ⟨0, 0, 0, false⟩).toArray 69 (0, 0))) :: Res.ob g4 (.cells jH.cells.toArray 67 (0, 0)) :: Res.ob g3 (.cells (jL.cells (.slice (some ⟨ge, 0, none⟩) 2 2)).toArray 24 (0, 0)) :: Res.ob ge (.cells (jL.es.flatMap Ent.cells).toArray 81 (0, 0)) :: Res.ob g2 (.cells jM.cells.toArray 60 (0, 0)) :: Res.ob gc (.cells (jC.flatMap cI).toArray 3 (0, 0)) :: []) := P
    repeat clear H
    clear P
    have H := HH
    clear HH
    have HH : Hp h0 h2 (Res.opt (D 12) (Res.via ptrM (val 12) fun q => Res.ob q (.cells (Vd.cells ⟨0, 0, 0, false⟩).toArray 69 (0, 0))) :: Res.opt (D 13) (Res.via ptrM (val 13) fun q => Res.ob q (.cells (Vd.cells ⟨0, 0, 0, false⟩).toArray 69 (0, 0))) :: Res.opt (D 14) (Res.via ptrM (val 14) fun q => Res.ob q (.cells (Vd.cells ⟨0, 0, 0, false⟩).toArray 69 (0, 0))) :: Res.opt (D 15) (Res.via ptrM (val 15) fun q => Res.ob q (.cells (Vd.cells ⟨0, 0, 0, false⟩).toArray 69 (0, 0))) :: Res.ob g4 (.cells jH.cells.toArray 67 (0, 0)) :: Res.pol g s1 [jF] bR bV bM (jk0 2) (jk1 2) (jk2 2) 0 :: Res.mp pI Rul.enc bR [(3, jR)] :: Res.mp pI Vlv.enc bV [(0, ⟨jL, s, jC, .slice (some ⟨vb, vo, none⟩) vn vc⟩)] :: Res.mp pI ptrV bM [(1, b)] :: Res.bag [⟨jL, s, jC, .slice (some ⟨vb, vo, none⟩) vn vc⟩] :: Res.mss [(b, jm 2)] :: Res.ob g3 (.cells (jL.cells (.slice (some ⟨ge, 0, none⟩) 2 2)).toArray 24 (0, 0)) :: Res.ob ge (.cells (jL.es.flatMap Ent.cells).toArray 81 (0, 0)) :: Res.ob g2 (.cells jM.cells.toArray 60 (0, 0)) :: Res.ob gc (.cells (jC.flatMap cI).toArray 3 (0, 0)) :: []) := H.sub ⟨[], by rw [List.append_nil]; exact List.perm_append_comm (l₁ := [_, _, _, _, _]) (l₂ := [_, _, _, _, _, _]) |>.append_right [_, _, _, _]⟩
    clear H
    exact ⟨2, by omega, d2.trans (by decide), rfl, d8.trans (by decide), d11.trans (by decide), v1, v4, v7, v10, w2, fun _ => rfl, w8, w11, HH⟩
  · rintro D val h ⟨n, hn, d2, d5, d8, d11, v1, v4, v7, v10, w2, w5, w8, w11, H⟩
    conv => whnf
    refine Hp.ld H 4 rfl rfl ?_
    exact ⟨n, hn, d2, d5, d8, d11, v1, v4, fun _ => rfl, v10, w2, w5, w8, w11, H⟩
  · rintro D val h ⟨n, hn, d2, d5, d8, d11, v1, v4, v7, v10, w2, w5, w8, w11, H⟩
    have e0 : n = 2 := by
      have q0 : 1 ≤ n := of_decide_eq_true (d2.symm.trans rfl)
      have q1 : 2 ≤ n := of_decide_eq_true (d5.symm.trans rfl)
      have q2 : ¬ 3 ≤ n := of_decide_eq_false (d8.symm.trans rfl)
      have q3 : ¬ 4 ≤ n := of_decide_eq_false (d11.symm.trans rfl)
      omega
    subst e0
    conv => whnf
    rw [v7 rfl]
    have HH : Hp h0 h (Res.pol g s1 [jF] bR bV bM (jk0 2) (jk1 2) (jk2 2) 0 :: Res.mp pI Rul.enc bR [(3, jR)] :: Res.mp pI Vlv.enc bV [(0, ⟨jL, s, jC, .slice (some ⟨vb, vo, none⟩) vn vc⟩)] :: Res.mp pI ptrV bM [(1, b)] :: Res.bag [⟨jL, s, jC, .slice (some ⟨vb, vo, none⟩) vn vc⟩] :: Res.mss [(b, jm 2)] :: Res.opt (D 12) (Res.via ptrM (val 12) fun q => Res.ob q (.cells (Vd.cells ⟨0, 0, 0, false⟩).toArray 69 (0, 0))) :: Res.opt (D 13) (Res.via ptrM (val 13) fun q => Res.ob q (.cells (Vd.cells ⟨0, 0, 0, false⟩).toArray 69 (0, 0))) :: Res.opt (D 14) (Res.via ptrM (val 14) fun q => Res.ob q (.cells (Vd.cells ⟨0, 0, 0, false⟩).toArray 69 (0, 0))) :: Res.opt (D 15) (Res.via ptrM (val 15) fun q => Res.ob q (.cells (Vd.cells ⟨0, 0, 0, false⟩).toArray 69 (0, 0))) :: Res.ob g4 (.cells jH.cells.toArray 67 (0, 0)) :: Res.ob g3 (.cells (jL.cells (.slice (some ⟨ge, 0, none⟩) 2 2)).toArray 24 (0, 0)) :: Res.ob ge (.cells (jL.es.flatMap Ent.cells).toArray 81 (0, 0)) :: Res.ob g2 (.cells jM.cells.toArray 60 (0, 0)) :: Res.ob gc (.cells (jC.flatMap cI).toArray 3 (0, 0)) :: []) := H.sub ⟨[], by rw [List.append_nil]; exact List.perm_append_comm (l₁ := [_, _, _, _, _, _]) (l₂ := [_, _, _, _, _]) |>.append_right [_, _, _, _]⟩
    repeat clear H
    have H := HH
    clear HH
    refine CallK.mono (judge_call H jH 1 80 2 60 (by decide) (jrule_ok s _ b jM1_ok) (by decide) (by decide) (by decide) (by decide) (by decide)) ?_
    rintro _ h2 ⟨e, d1, X1, hj, rfl, P⟩
    have hj2 := j_step2 s _ hj
    obtain ⟨rfl, rfl, rfl⟩ := hj2
    clear hj
    have HH : Hp h0 h2 (Res.pol g s1 [jF] bR bV bM (jk0 3) (jk1 3) (jk2 3) 0 :: Res.mp pI Rul.enc bR [(3, jR)] :: Res.mp pI Vlv.enc bV [(0, ⟨jL, s, jC, .slice (some ⟨vb, vo, none⟩) vn vc⟩)] :: Res.mp pI ptrV bM [(1, b)] :: Res.bag [⟨jL, s, jC, .slice (some ⟨vb, vo, none⟩) vn vc⟩] :: Res.mss [(b, jm 3)] :: Res.opt (D 12) (Res.via ptrM (val 12) fun q => Res.ob q (.cells (Vd.cells ⟨0, 0, 0, false⟩).toArray 69 (0, 0))) :: Res.opt (D 13) (Res.via ptrM (val 13) fun q => Res.ob q (.cells (Vd.cells ⟨0, 0, 0, false⟩).toArray 69 (0, 0))) :: Res.opt (D 14) (Res.via ptrM (val 14) fun q => Res.ob q (.cells (Vd.cells ⟨0, 0, 0, false⟩).toArray 69 (0, 0))) :: Res.opt (D 15) (Res.via ptrM (val 15) fun q => Res.ob q (.cells (Vd.cells ⟨0, 0, 0, false⟩).toArray 69 (0, 0))) :: Res.ob g4 (.cells jH.cells.toArray 67 (0, 0)) :: Res.ob g3 (.cells (jL.cells (.slice (some ⟨ge, 0, none⟩) 2 2)).toArray 24 (0, 0)) :: Res.ob ge (.cells (jL.es.flatMap Ent.cells).toArray 81 (0, 0)) :: Res.ob g2 (.cells jM.cells.toArray 60 (0, 0)) :: Res.ob gc (.cells (jC.flatMap cI).toArray 3 (0, 0)) :: []) := P
    repeat clear H
    clear P
    have H := HH
    clear HH
    have HH : Hp h0 h2 (Res.opt (D 12) (Res.via ptrM (val 12) fun q => Res.ob q (.cells (Vd.cells ⟨0, 0, 0, false⟩).toArray 69 (0, 0))) :: Res.opt (D 13) (Res.via ptrM (val 13) fun q => Res.ob q (.cells (Vd.cells ⟨0, 0, 0, false⟩).toArray 69 (0, 0))) :: Res.opt (D 14) (Res.via ptrM (val 14) fun q => Res.ob q (.cells (Vd.cells ⟨0, 0, 0, false⟩).toArray 69 (0, 0))) :: Res.opt (D 15) (Res.via ptrM (val 15) fun q => Res.ob q (.cells (Vd.cells ⟨0, 0, 0, false⟩).toArray 69 (0, 0))) :: Res.ob g4 (.cells jH.cells.toArray 67 (0, 0)) :: Res.pol g s1 [jF] bR bV bM (jk0 3) (jk1 3) (jk2 3) 0 :: Res.mp pI Rul.enc bR [(3, jR)] :: Res.mp pI Vlv.enc bV [(0, ⟨jL, s, jC, .slice (some ⟨vb, vo, none⟩) vn vc⟩)] :: Res.mp pI ptrV bM [(1, b)] :: Res.bag [⟨jL, s, jC, .slice (some ⟨vb, vo, none⟩) vn vc⟩] :: Res.mss [(b, jm 3)] :: Res.ob g3 (.cells (jL.cells (.slice (some ⟨ge, 0, none⟩) 2 2)).toArray 24 (0, 0)) :: Res.ob ge (.cells (jL.es.flatMap Ent.cells).toArray 81 (0, 0)) :: Res.ob g2 (.cells jM.cells.toArray 60 (0, 0)) :: Res.ob gc (.cells (jC.flatMap cI).toArray 3 (0, 0)) :: []) := H.sub ⟨[], by rw [List.append_nil]; exact List.perm_append_comm (l₁ := [_, _, _, _, _]) (l₂ := [_, _, _, _, _, _]) |>.append_right [_, _, _, _]⟩
    clear H
    exact ⟨3, by omega, d2.trans (by decide), d5.trans (by decide), rfl, d11.trans (by decide), v1, v4, v7, v10, w2, w5, fun _ => rfl, w11, HH⟩
  · rintro D val h ⟨n, hn, d2, d5, d8, d11, v1, v4, v7, v10, w2, w5, w8, w11, H⟩
    conv => whnf
    refine Hp.ld H 4 rfl rfl ?_
    exact ⟨n, hn, d2, d5, d8, d11, v1, v4, v7, fun _ => rfl, w2, w5, w8, w11, H⟩
  · rintro D val h ⟨n, hn, d2, d5, d8, d11, v1, v4, v7, v10, w2, w5, w8, w11, H⟩
    have e0 : n = 3 := by
      have q0 : 1 ≤ n := of_decide_eq_true (d2.symm.trans rfl)
      have q1 : 2 ≤ n := of_decide_eq_true (d5.symm.trans rfl)
      have q2 : 3 ≤ n := of_decide_eq_true (d8.symm.trans rfl)
      have q3 : ¬ 4 ≤ n := of_decide_eq_false (d11.symm.trans rfl)
      omega
    subst e0
    conv => whnf
    rw [v10 rfl]
    have HH : Hp h0 h (Res.pol g s1 [jF] bR bV bM (jk0 3) (jk1 3) (jk2 3) 0 :: Res.mp pI Rul.enc bR [(3, jR)] :: Res.mp pI Vlv.enc bV [(0, ⟨jL, s, jC, .slice (some ⟨vb, vo, none⟩) vn vc⟩)] :: Res.mp pI ptrV bM [(1, b)] :: Res.bag [⟨jL, s, jC, .slice (some ⟨vb, vo, none⟩) vn vc⟩] :: Res.mss [(b, jm 3)] :: Res.opt (D 12) (Res.via ptrM (val 12) fun q => Res.ob q (.cells (Vd.cells ⟨0, 0, 0, false⟩).toArray 69 (0, 0))) :: Res.opt (D 13) (Res.via ptrM (val 13) fun q => Res.ob q (.cells (Vd.cells ⟨0, 0, 0, false⟩).toArray 69 (0, 0))) :: Res.opt (D 14) (Res.via ptrM (val 14) fun q => Res.ob q (.cells (Vd.cells ⟨0, 0, 0, false⟩).toArray 69 (0, 0))) :: Res.opt (D 15) (Res.via ptrM (val 15) fun q => Res.ob q (.cells (Vd.cells ⟨0, 0, 0, false⟩).toArray 69 (0, 0))) :: Res.ob g4 (.cells jH.cells.toArray 67 (0, 0)) :: Res.ob g3 (.cells (jL.cells (.slice (some ⟨ge, 0, none⟩) 2 2)).toArray 24 (0, 0)) :: Res.ob ge (.cells (jL.es.flatMap Ent.cells).toArray 81 (0, 0)) :: Res.ob g2 (.cells jM.cells.toArray 60 (0, 0)) :: Res.ob gc (.cells (jC.flatMap cI).toArray 3 (0, 0)) :: []) := H.sub ⟨[], by rw [List.append_nil]; exact List.perm_append_comm (l₁ := [_, _, _, _, _, _]) (l₂ := [_, _, _, _, _]) |>.append_right [_, _, _, _]⟩
    repeat clear H
    have H := HH
    clear HH
    refine CallK.mono (judge_call H jH 1 80 2 110 (by decide) (jrule_ok s _ b jM1_ok) (by decide) (by decide) (by decide) (by decide) (by decide)) ?_
    rintro _ h2 ⟨e, d1, X1, hj, rfl, P⟩
    have hj2 := j_step3 s _ hj
    obtain ⟨rfl, rfl, rfl⟩ := hj2
    clear hj
    have HH : Hp h0 h2 (Res.pol g s1 [jF] bR bV bM (jk0 4) (jk1 4) (jk2 4) 0 :: Res.mp pI Rul.enc bR [(3, jR)] :: Res.mp pI Vlv.enc bV [(0, ⟨jL, s, jC, .slice (some ⟨vb, vo, none⟩) vn vc⟩)] :: Res.mp pI ptrV bM [(1, b)] :: Res.bag [⟨jL, s, jC, .slice (some ⟨vb, vo, none⟩) vn vc⟩] :: Res.mss [(b, jm 4)] :: Res.opt (D 12) (Res.via ptrM (val 12) fun q => Res.ob q (.cells (Vd.cells ⟨0, 0, 0, false⟩).toArray 69 (0, 0))) :: Res.opt (D 13) (Res.via ptrM (val 13) fun q => Res.ob q (.cells (Vd.cells ⟨0, 0, 0, false⟩).toArray 69 (0, 0))) :: Res.opt (D 14) (Res.via ptrM (val 14) fun q => Res.ob q (.cells (Vd.cells ⟨0, 0, 0, false⟩).toArray 69 (0, 0))) :: Res.opt (D 15) (Res.via ptrM (val 15) fun q => Res.ob q (.cells (Vd.cells ⟨0, 0, 0, false⟩).toArray 69 (0, 0))) :: Res.ob g4 (.cells jH.cells.toArray 67 (0, 0)) :: Res.ob g3 (.cells (jL.cells (.slice (some ⟨ge, 0, none⟩) 2 2)).toArray 24 (0, 0)) :: Res.ob ge (.cells (jL.es.flatMap Ent.cells).toArray 81 (0, 0)) :: Res.ob g2 (.cells jM.cells.toArray 60 (0, 0)) :: Res.ob gc (.cells (jC.flatMap cI).toArray 3 (0, 0)) :: []) := P
    repeat clear H
    clear P
    have H := HH
    clear HH
    have HH : Hp h0 h2 (Res.opt (D 12) (Res.via ptrM (val 12) fun q => Res.ob q (.cells (Vd.cells ⟨0, 0, 0, false⟩).toArray 69 (0, 0))) :: Res.opt (D 13) (Res.via ptrM (val 13) fun q => Res.ob q (.cells (Vd.cells ⟨0, 0, 0, false⟩).toArray 69 (0, 0))) :: Res.opt (D 14) (Res.via ptrM (val 14) fun q => Res.ob q (.cells (Vd.cells ⟨0, 0, 0, false⟩).toArray 69 (0, 0))) :: Res.opt (D 15) (Res.via ptrM (val 15) fun q => Res.ob q (.cells (Vd.cells ⟨0, 0, 0, false⟩).toArray 69 (0, 0))) :: Res.ob g4 (.cells jH.cells.toArray 67 (0, 0)) :: Res.pol g s1 [jF] bR bV bM (jk0 4) (jk1 4) (jk2 4) 0 :: Res.mp pI Rul.enc bR [(3, jR)] :: Res.mp pI Vlv.enc bV [(0, ⟨jL, s, jC, .slice (some ⟨vb, vo, none⟩) vn vc⟩)] :: Res.mp pI ptrV bM [(1, b)] :: Res.bag [⟨jL, s, jC, .slice (some ⟨vb, vo, none⟩) vn vc⟩] :: Res.mss [(b, jm 4)] :: Res.ob g3 (.cells (jL.cells (.slice (some ⟨ge, 0, none⟩) 2 2)).toArray 24 (0, 0)) :: Res.ob ge (.cells (jL.es.flatMap Ent.cells).toArray 81 (0, 0)) :: Res.ob g2 (.cells jM.cells.toArray 60 (0, 0)) :: Res.ob gc (.cells (jC.flatMap cI).toArray 3 (0, 0)) :: []) := H.sub ⟨[], by rw [List.append_nil]; exact List.perm_append_comm (l₁ := [_, _, _, _, _]) (l₂ := [_, _, _, _, _, _]) |>.append_right [_, _, _, _]⟩
    clear H
    exact ⟨4, by omega, d2.trans (by decide), d5.trans (by decide), d8.trans (by decide), rfl, v1, v4, v7, v10, w2, w5, w8, fun _ => rfl, HH⟩
  · rintro D val h ⟨n, hn, d2, d5, d8, d11, v1, v4, v7, v10, w2, w5, w8, w11, H⟩
    conv => whnf
    intro q h5 N
    exact ⟨n, hn, d2, d5, d8, d11, v1, v4, v7, v10, w2, w5, w8, w11, (Hp.via_in ptrM (fun q => Res.ob q (.cells (Vd.cells ⟨0, 0, 0, false⟩).toArray 69 (0, 0))) (v := .pointer (some ⟨q, 0, none⟩)) (H.new N) 0 rfl rfl).fill 0 rfl⟩
  · rintro D val h ⟨n, hn, d2, d5, d8, d11, v1, v4, v7, v10, w2, w5, w8, w11, H⟩
    conv => whnf
    intro q h5 N
    exact ⟨n, hn, d2, d5, d8, d11, v1, v4, v7, v10, w2, w5, w8, w11, (Hp.via_in ptrM (fun q => Res.ob q (.cells (Vd.cells ⟨0, 0, 0, false⟩).toArray 69 (0, 0))) (v := .pointer (some ⟨q, 0, none⟩)) (H.new N) 0 rfl rfl).fill 1 rfl⟩
  · rintro D val h ⟨n, hn, d2, d5, d8, d11, v1, v4, v7, v10, w2, w5, w8, w11, H⟩
    conv => whnf
    intro q h5 N
    exact ⟨n, hn, d2, d5, d8, d11, v1, v4, v7, v10, w2, w5, w8, w11, (Hp.via_in ptrM (fun q => Res.ob q (.cells (Vd.cells ⟨0, 0, 0, false⟩).toArray 69 (0, 0))) (v := .pointer (some ⟨q, 0, none⟩)) (H.new N) 0 rfl rfl).fill 2 rfl⟩
  · rintro D val h ⟨n, hn, d2, d5, d8, d11, v1, v4, v7, v10, w2, w5, w8, w11, H⟩
    conv => whnf
    intro q h5 N
    exact ⟨n, hn, d2, d5, d8, d11, v1, v4, v7, v10, w2, w5, w8, w11, (Hp.via_in ptrM (fun q => Res.ob q (.cells (Vd.cells ⟨0, 0, 0, false⟩).toArray 69 (0, 0))) (v := .pointer (some ⟨q, 0, none⟩)) (H.new N) 0 rfl rfl).fill 3 rfl⟩
  clear H
  rintro val h12 ⟨n, hn, _, _, _, d11, _, _, _, _, w2, w5, w8, w11, H⟩
  have e0 : n = 4 := by
    have q : 4 ≤ n := of_decide_eq_true (d11.symm.trans rfl)
    omega
  subst e0
  have hX := H.via_out 0 rfl
  obtain ⟨q0, hv0, H2⟩ := hX
  clear H
  have H := H2
  clear H2
  change val 12 = .pointer (some ⟨q0, 0, none⟩) at hv0
  have hX := H.via_out 1 rfl
  obtain ⟨q1, hv1, H2⟩ := hX
  clear H
  have H := H2
  clear H2
  change val 13 = .pointer (some ⟨q1, 0, none⟩) at hv1
  have hX := H.via_out 2 rfl
  obtain ⟨q2, hv2, H2⟩ := hX
  clear H
  have H := H2
  clear H2
  change val 14 = .pointer (some ⟨q2, 0, none⟩) at hv2
  have hX := H.via_out 3 rfl
  obtain ⟨q3, hv3, H2⟩ := hX
  clear H
  have H := H2
  clear H2
  change val 15 = .pointer (some ⟨q3, 0, none⟩) at hv3
  have HH : Hp h0 _ (Res.ob q0 (.cells (Vd.cells (⟨0, 0, 0, false⟩)).toArray 69 (0, 0)) :: Res.ob q1 (.cells (Vd.cells (⟨0, 0, 0, false⟩)).toArray 69 (0, 0)) :: Res.ob q2 (.cells (Vd.cells (⟨0, 0, 0, false⟩)).toArray 69 (0, 0)) :: Res.ob q3 (.cells (Vd.cells (⟨0, 0, 0, false⟩)).toArray 69 (0, 0)) :: Res.ob g4 (.cells jH.cells.toArray 67 (0, 0)) :: Res.pol g s1 [jF] bR bV bM (jk0 4) (jk1 4) (jk2 4) 0 :: Res.mp pI Rul.enc bR [(3, jR)] :: Res.mp pI Vlv.enc bV [(0, ⟨jL, s, jC, .slice (some ⟨vb, vo, none⟩) vn vc⟩)] :: Res.mp pI ptrV bM [(1, b)] :: Res.bag [⟨jL, s, jC, .slice (some ⟨vb, vo, none⟩) vn vc⟩] :: Res.mss [(b, jm 4)] :: Res.ob g3 (.cells (jL.cells (.slice (some ⟨ge, 0, none⟩) 2 2)).toArray 24 (0, 0)) :: Res.ob ge (.cells (jL.es.flatMap Ent.cells).toArray 81 (0, 0)) :: Res.ob g2 (.cells jM.cells.toArray 60 (0, 0)) :: Res.ob gc (.cells (jC.flatMap cI).toArray 3 (0, 0)) :: []) := H
  repeat clear H
  have H := HH
  clear HH
  conv => whnf
  have hv : val ((12, ([] : List Nat)).fst) = .pointer (some ⟨q0, 0, none⟩) := hv0
  rw [hv]
  clear hv
  have hv : val ((2, ([1] : List Nat)).fst) = .agg (Vd.cells (jv 0)).toArray := w2 rfl
  rw [hv]
  clear hv
  refine Hp.st H 0 rfl rfl rfl rfl rfl ?_
  clear H
  intro h13 H
  conv => whnf
  repeat ((first | refine cnd_intro (by first | (simp; done) | (simp; omega) | omega | (simp only [Bool.and_eq_true, decide_eq_true_eq]; omega)) ?_ | refine Hp.ld H 0 rfl rfl ?_ | refine Hp.ld H 1 rfl rfl ?_ | refine Hp.ld H 2 rfl rfl ?_ | refine Hp.ld H 3 rfl rfl ?_ | refine Hp.ld H 4 rfl rfl ?_ | refine Hp.ld H 5 rfl rfl ?_ | (refine Hp.st H 0 rfl rfl rfl rfl rfl ?_; intro h H) | (refine Hp.st H 1 rfl rfl rfl rfl rfl ?_; intro h H) | (refine Hp.st H 2 rfl rfl rfl rfl rfl ?_; intro h H) | (refine Hp.st H 3 rfl rfl rfl rfl rfl ?_; intro h H) | (refine Hp.st H 4 rfl rfl rfl rfl rfl ?_; intro h H) | (refine Hp.st H 5 rfl rfl rfl rfl rfl ?_; intro h H) | refine Drawn.mk (by kernel_rfl) ?_ | refine WrapK.i64 (by omega) (by omega) ?_ | refine WrapK.u64 (by omega) (by omega) ?_ | refine WrapK.u32 (by omega) (by omega) ?_ | refine WrapK.u8 (by omega) (by omega) ?_ | refine iteT (by omega) ?_ | refine iteF (by omega) ?_ | refine iteET (by omega) ?_ | refine iteEF (by omega) ?_ | refine iteNT (by omega) ?_ | refine iteNF (by omega) ?_); conv => whnf)
  have hv : val ((13, ([] : List Nat)).fst) = .pointer (some ⟨q1, 0, none⟩) := hv1
  rw [hv]
  clear hv
  have hv : val ((5, ([1, 2, 4] : List Nat)).fst) = .agg (Vd.cells (jv 1)).toArray := w5 rfl
  rw [hv]
  clear hv
  refine Hp.st H 1 rfl rfl rfl rfl rfl ?_
  clear H
  intro h13 H
  conv => whnf
  repeat ((first | refine cnd_intro (by first | (simp; done) | (simp; omega) | omega | (simp only [Bool.and_eq_true, decide_eq_true_eq]; omega)) ?_ | refine Hp.ld H 0 rfl rfl ?_ | refine Hp.ld H 1 rfl rfl ?_ | refine Hp.ld H 2 rfl rfl ?_ | refine Hp.ld H 3 rfl rfl ?_ | refine Hp.ld H 4 rfl rfl ?_ | refine Hp.ld H 5 rfl rfl ?_ | (refine Hp.st H 0 rfl rfl rfl rfl rfl ?_; intro h H) | (refine Hp.st H 1 rfl rfl rfl rfl rfl ?_; intro h H) | (refine Hp.st H 2 rfl rfl rfl rfl rfl ?_; intro h H) | (refine Hp.st H 3 rfl rfl rfl rfl rfl ?_; intro h H) | (refine Hp.st H 4 rfl rfl rfl rfl rfl ?_; intro h H) | (refine Hp.st H 5 rfl rfl rfl rfl rfl ?_; intro h H) | refine Drawn.mk (by kernel_rfl) ?_ | refine WrapK.i64 (by omega) (by omega) ?_ | refine WrapK.u64 (by omega) (by omega) ?_ | refine WrapK.u32 (by omega) (by omega) ?_ | refine WrapK.u8 (by omega) (by omega) ?_ | refine iteT (by omega) ?_ | refine iteF (by omega) ?_ | refine iteET (by omega) ?_ | refine iteEF (by omega) ?_ | refine iteNT (by omega) ?_ | refine iteNF (by omega) ?_); conv => whnf)
  have hv : val ((14, ([] : List Nat)).fst) = .pointer (some ⟨q2, 0, none⟩) := hv2
  rw [hv]
  clear hv
  have hv : val ((8, ([1, 2, 4, 5, 7] : List Nat)).fst) = .agg (Vd.cells (jv 2)).toArray := w8 rfl
  rw [hv]
  clear hv
  refine Hp.st H 2 rfl rfl rfl rfl rfl ?_
  clear H
  intro h13 H
  conv => whnf
  repeat ((first | refine cnd_intro (by first | (simp; done) | (simp; omega) | omega | (simp only [Bool.and_eq_true, decide_eq_true_eq]; omega)) ?_ | refine Hp.ld H 0 rfl rfl ?_ | refine Hp.ld H 1 rfl rfl ?_ | refine Hp.ld H 2 rfl rfl ?_ | refine Hp.ld H 3 rfl rfl ?_ | refine Hp.ld H 4 rfl rfl ?_ | refine Hp.ld H 5 rfl rfl ?_ | (refine Hp.st H 0 rfl rfl rfl rfl rfl ?_; intro h H) | (refine Hp.st H 1 rfl rfl rfl rfl rfl ?_; intro h H) | (refine Hp.st H 2 rfl rfl rfl rfl rfl ?_; intro h H) | (refine Hp.st H 3 rfl rfl rfl rfl rfl ?_; intro h H) | (refine Hp.st H 4 rfl rfl rfl rfl rfl ?_; intro h H) | (refine Hp.st H 5 rfl rfl rfl rfl rfl ?_; intro h H) | refine Drawn.mk (by kernel_rfl) ?_ | refine WrapK.i64 (by omega) (by omega) ?_ | refine WrapK.u64 (by omega) (by omega) ?_ | refine WrapK.u32 (by omega) (by omega) ?_ | refine WrapK.u8 (by omega) (by omega) ?_ | refine iteT (by omega) ?_ | refine iteF (by omega) ?_ | refine iteET (by omega) ?_ | refine iteEF (by omega) ?_ | refine iteNT (by omega) ?_ | refine iteNF (by omega) ?_); conv => whnf)
  have hv : val ((15, ([] : List Nat)).fst) = .pointer (some ⟨q3, 0, none⟩) := hv3
  rw [hv]
  clear hv
  have hv : val ((11, ([1, 2, 4, 5, 7, 8, 10] : List Nat)).fst) = .agg (Vd.cells (jv 3)).toArray := w11 rfl
  rw [hv]
  clear hv
  refine Hp.st H 3 rfl rfl rfl rfl rfl ?_
  clear H
  intro h13 H
  conv => whnf
  repeat ((first | refine cnd_intro (by first | (simp; done) | (simp; omega) | omega | (simp only [Bool.and_eq_true, decide_eq_true_eq]; omega)) ?_ | refine Hp.ld H 0 rfl rfl ?_ | refine Hp.ld H 1 rfl rfl ?_ | refine Hp.ld H 2 rfl rfl ?_ | refine Hp.ld H 3 rfl rfl ?_ | refine Hp.ld H 4 rfl rfl ?_ | refine Hp.ld H 5 rfl rfl ?_ | (refine Hp.st H 0 rfl rfl rfl rfl rfl ?_; intro h H) | (refine Hp.st H 1 rfl rfl rfl rfl rfl ?_; intro h H) | (refine Hp.st H 2 rfl rfl rfl rfl rfl ?_; intro h H) | (refine Hp.st H 3 rfl rfl rfl rfl rfl ?_; intro h H) | (refine Hp.st H 4 rfl rfl rfl rfl rfl ?_; intro h H) | (refine Hp.st H 5 rfl rfl rfl rfl rfl ?_; intro h H) | refine Drawn.mk (by kernel_rfl) ?_ | refine WrapK.i64 (by omega) (by omega) ?_ | refine WrapK.u64 (by omega) (by omega) ?_ | refine WrapK.u32 (by omega) (by omega) ?_ | refine WrapK.u8 (by omega) (by omega) ?_ | refine iteT (by omega) ?_ | refine iteF (by omega) ?_ | refine iteET (by omega) ?_ | refine iteEF (by omega) ?_ | refine iteNT (by omega) ?_ | refine iteNF (by omega) ?_); conv => whnf)
  have HH : Hp h0 _ (Res.pol g s1 [jF] bR bV bM (jk0 4) (jk1 4) (jk2 4) 0 :: Res.mp pI Rul.enc bR [(3, jR)] :: Res.mp pI Vlv.enc bV [(0, ⟨jL, s, jC, .slice (some ⟨vb, vo, none⟩) vn vc⟩)] :: Res.mp pI ptrV bM [(1, b)] :: Res.bag [⟨jL, s, jC, .slice (some ⟨vb, vo, none⟩) vn vc⟩] :: Res.mss [(b, jm 4)] :: Res.ob q0 (.cells (Vd.cells (jv 0)).toArray 69 (0, 0)) :: Res.ob q1 (.cells (Vd.cells (jv 1)).toArray 69 (0, 0)) :: Res.ob q2 (.cells (Vd.cells (jv 2)).toArray 69 (0, 0)) :: Res.ob q3 (.cells (Vd.cells (jv 3)).toArray 69 (0, 0)) :: Res.ob g4 (.cells jH.cells.toArray 67 (0, 0)) :: Res.ob g3 (.cells (jL.cells (.slice (some ⟨ge, 0, none⟩) 2 2)).toArray 24 (0, 0)) :: Res.ob ge (.cells (jL.es.flatMap Ent.cells).toArray 81 (0, 0)) :: Res.ob g2 (.cells jM.cells.toArray 60 (0, 0)) :: Res.ob gc (.cells (jC.flatMap cI).toArray 3 (0, 0)) :: []) := H.sub ⟨[], by rw [List.append_nil]; exact List.perm_append_comm (l₁ := [_, _, _, _, _, _]) (l₂ := [_, _, _, _, _]) |>.append_right [_, _, _, _]⟩
  repeat clear H
  have H := HH
  clear HH
  refine CallK.mono (judge_call H jH 1 80 2 110 (by decide) (jrule_ok s _ b jM2_ok) (by decide) (by decide) (by decide) (by decide) (by decide)) ?_
  rintro _ h14 ⟨e, d1, X1, hj, rfl, P⟩
  have hj2 := j_step4 s _ hj
  obtain ⟨rfl, rfl, rfl⟩ := hj2
  clear hj
  have HH : Hp h0 _ (Res.pol g s1 [jF] bR bV bM 2 1 1 1 :: Res.mp pI Rul.enc bR [(3, jR)] :: Res.mp pI Vlv.enc bV [(0, ⟨jL, s, jC, .slice (some ⟨vb, vo, none⟩) vn vc⟩)] :: Res.mp pI ptrV bM [(1, b)] :: Res.bag [⟨jL, s, jC, .slice (some ⟨vb, vo, none⟩) vn vc⟩] :: Res.mss [(b, jM3)] :: Res.ob q0 (.cells (Vd.cells (jv 0)).toArray 69 (0, 0)) :: Res.ob q1 (.cells (Vd.cells (jv 1)).toArray 69 (0, 0)) :: Res.ob q2 (.cells (Vd.cells (jv 2)).toArray 69 (0, 0)) :: Res.ob q3 (.cells (Vd.cells (jv 3)).toArray 69 (0, 0)) :: Res.ob g4 (.cells jH.cells.toArray 67 (0, 0)) :: Res.ob g3 (.cells (jL.cells (.slice (some ⟨ge, 0, none⟩) 2 2)).toArray 24 (0, 0)) :: Res.ob ge (.cells (jL.es.flatMap Ent.cells).toArray 81 (0, 0)) :: Res.ob g2 (.cells jM.cells.toArray 60 (0, 0)) :: Res.ob gc (.cells (jC.flatMap cI).toArray 3 (0, 0)) :: []) := P
  repeat clear H; clear P
  have H := HH
  clear HH
  conv => whnf
  repeat ((first | refine cnd_intro (by first | (simp; done) | (simp; omega) | omega | (simp only [Bool.and_eq_true, decide_eq_true_eq]; omega)) ?_ | refine Hp.ld H 0 rfl rfl ?_ | refine Hp.ld H 1 rfl rfl ?_ | refine Hp.ld H 2 rfl rfl ?_ | refine Hp.ld H 3 rfl rfl ?_ | refine Hp.ld H 4 rfl rfl ?_ | refine Hp.ld H 5 rfl rfl ?_ | (refine Hp.st H 0 rfl rfl rfl rfl rfl ?_; intro h H) | (refine Hp.st H 1 rfl rfl rfl rfl rfl ?_; intro h H) | (refine Hp.st H 2 rfl rfl rfl rfl rfl ?_; intro h H) | (refine Hp.st H 3 rfl rfl rfl rfl rfl ?_; intro h H) | (refine Hp.st H 4 rfl rfl rfl rfl rfl ?_; intro h H) | (refine Hp.st H 5 rfl rfl rfl rfl rfl ?_; intro h H) | refine Drawn.mk (by kernel_rfl) ?_ | refine WrapK.i64 (by omega) (by omega) ?_ | refine WrapK.u64 (by omega) (by omega) ?_ | refine WrapK.u32 (by omega) (by omega) ?_ | refine WrapK.u8 (by omega) (by omega) ?_ | refine iteT (by omega) ?_ | refine iteF (by omega) ?_ | refine iteET (by omega) ?_ | refine iteEF (by omega) ?_ | refine iteNT (by omega) ?_ | refine iteNF (by omega) ?_); conv => whnf)
  intro q4 h15 N
  replace H := H.new N
  clear N
  conv => whnf
  repeat ((first | refine cnd_intro (by first | (simp; done) | (simp; omega) | omega | (simp only [Bool.and_eq_true, decide_eq_true_eq]; omega)) ?_ | refine Hp.ld H 0 rfl rfl ?_ | refine Hp.ld H 1 rfl rfl ?_ | refine Hp.ld H 2 rfl rfl ?_ | refine Hp.ld H 3 rfl rfl ?_ | refine Hp.ld H 4 rfl rfl ?_ | refine Hp.ld H 5 rfl rfl ?_ | (refine Hp.st H 0 rfl rfl rfl rfl rfl ?_; intro h H) | (refine Hp.st H 1 rfl rfl rfl rfl rfl ?_; intro h H) | (refine Hp.st H 2 rfl rfl rfl rfl rfl ?_; intro h H) | (refine Hp.st H 3 rfl rfl rfl rfl rfl ?_; intro h H) | (refine Hp.st H 4 rfl rfl rfl rfl rfl ?_; intro h H) | (refine Hp.st H 5 rfl rfl rfl rfl rfl ?_; intro h H) | refine Drawn.mk (by kernel_rfl) ?_ | refine WrapK.i64 (by omega) (by omega) ?_ | refine WrapK.u64 (by omega) (by omega) ?_ | refine WrapK.u32 (by omega) (by omega) ?_ | refine WrapK.u8 (by omega) (by omega) ?_ | refine iteT (by omega) ?_ | refine iteF (by omega) ?_ | refine iteET (by omega) ?_ | refine iteEF (by omega) ?_ | refine iteNT (by omega) ?_ | refine iteNF (by omega) ?_); conv => whnf)
  have HH : Hp h0 _ (Res.ob q4 (.cells (Vd.cells ⟨3, 3, 5, false⟩).toArray 69 (0, 0)) :: Res.pol g s1 [jF] bR bV bM 2 1 1 1 :: Res.mp pI Rul.enc bR [(3, jR)] :: Res.mp pI Vlv.enc bV [(0, ⟨jL, s, jC, .slice (some ⟨vb, vo, none⟩) vn vc⟩)] :: Res.mp pI ptrV bM [(1, b)] :: Res.bag [⟨jL, s, jC, .slice (some ⟨vb, vo, none⟩) vn vc⟩] :: Res.mss [(b, jM3)] :: Res.ob q0 (.cells (Vd.cells (jv 0)).toArray 69 (0, 0)) :: Res.ob q1 (.cells (Vd.cells (jv 1)).toArray 69 (0, 0)) :: Res.ob q2 (.cells (Vd.cells (jv 2)).toArray 69 (0, 0)) :: Res.ob q3 (.cells (Vd.cells (jv 3)).toArray 69 (0, 0)) :: Res.ob g4 (.cells jH.cells.toArray 67 (0, 0)) :: Res.ob g3 (.cells (jL.cells (.slice (some ⟨ge, 0, none⟩) 2 2)).toArray 24 (0, 0)) :: Res.ob ge (.cells (jL.es.flatMap Ent.cells).toArray 81 (0, 0)) :: Res.ob g2 (.cells jM.cells.toArray 60 (0, 0)) :: Res.ob gc (.cells (jC.flatMap cI).toArray 3 (0, 0)) :: []) := H
  repeat clear H
  have H := HH
  clear HH
  have HH : Hp h0 _ (Res.pol g s1 [jF] bR bV bM 2 1 1 1 :: Res.mp pI Rul.enc bR [(3, jR)] :: Res.mp pI Vlv.enc bV [(0, ⟨jL, s, jC, .slice (some ⟨vb, vo, none⟩) vn vc⟩)] :: Res.mp pI ptrV bM [(1, b)] :: Res.bag [⟨jL, s, jC, .slice (some ⟨vb, vo, none⟩) vn vc⟩] :: Res.mss [(b, jM3)] :: Res.ob q4 (.cells (Vd.cells ⟨3, 3, 5, false⟩).toArray 69 (0, 0)) :: Res.ob q0 (.cells (Vd.cells (jv 0)).toArray 69 (0, 0)) :: Res.ob q1 (.cells (Vd.cells (jv 1)).toArray 69 (0, 0)) :: Res.ob q2 (.cells (Vd.cells (jv 2)).toArray 69 (0, 0)) :: Res.ob q3 (.cells (Vd.cells (jv 3)).toArray 69 (0, 0)) :: Res.ob g4 (.cells jH.cells.toArray 67 (0, 0)) :: Res.ob g3 (.cells (jL.cells (.slice (some ⟨ge, 0, none⟩) 2 2)).toArray 24 (0, 0)) :: Res.ob ge (.cells (jL.es.flatMap Ent.cells).toArray 81 (0, 0)) :: Res.ob g2 (.cells jM.cells.toArray 60 (0, 0)) :: Res.ob gc (.cells (jC.flatMap cI).toArray 3 (0, 0)) :: []) := H.sub ⟨[], by rw [List.append_nil]; exact List.perm_append_comm (l₁ := [_, _, _, _, _, _]) (l₂ := [_]) |>.append_right [_, _, _, _, _, _, _, _, _]⟩
  repeat clear H
  have H := HH
  clear HH
  refine CallK.mono (prule_call _ g s1 bR bV bM 2 1 1 1 [(3, jR)] 3 (pol_ob (i := 0) H rfl) (H.get 1 rfl)) ?_
  rintro _ h16 ⟨k5, rfl⟩
  replace H := H.and k5
  clear k5
  conv => whnf
  repeat ((first | refine cnd_intro (by first | (simp; done) | (simp; omega) | omega | (simp only [Bool.and_eq_true, decide_eq_true_eq]; omega)) ?_ | refine Hp.ld H 0 rfl rfl ?_ | refine Hp.ld H 1 rfl rfl ?_ | refine Hp.ld H 2 rfl rfl ?_ | refine Hp.ld H 3 rfl rfl ?_ | refine Hp.ld H 4 rfl rfl ?_ | refine Hp.ld H 5 rfl rfl ?_ | (refine Hp.st H 0 rfl rfl rfl rfl rfl ?_; intro h H) | (refine Hp.st H 1 rfl rfl rfl rfl rfl ?_; intro h H) | (refine Hp.st H 2 rfl rfl rfl rfl rfl ?_; intro h H) | (refine Hp.st H 3 rfl rfl rfl rfl rfl ?_; intro h H) | (refine Hp.st H 4 rfl rfl rfl rfl rfl ?_; intro h H) | (refine Hp.st H 5 rfl rfl rfl rfl rfl ?_; intro h H) | refine Drawn.mk (by kernel_rfl) ?_ | refine WrapK.i64 (by omega) (by omega) ?_ | refine WrapK.u64 (by omega) (by omega) ?_ | refine WrapK.u32 (by omega) (by omega) ?_ | refine WrapK.u8 (by omega) (by omega) ?_ | refine iteT (by omega) ?_ | refine iteF (by omega) ?_ | refine iteET (by omega) ?_ | refine iteEF (by omega) ?_ | refine iteNT (by omega) ?_ | refine iteNF (by omega) ?_); conv => whnf)
  intro g10 h17 N
  replace H := H.new N
  clear N
  conv => whnf
  repeat ((first | refine cnd_intro (by first | (simp; done) | (simp; omega) | omega | (simp only [Bool.and_eq_true, decide_eq_true_eq]; omega)) ?_ | refine Hp.ld H 0 rfl rfl ?_ | refine Hp.ld H 1 rfl rfl ?_ | refine Hp.ld H 2 rfl rfl ?_ | refine Hp.ld H 3 rfl rfl ?_ | refine Hp.ld H 4 rfl rfl ?_ | refine Hp.ld H 5 rfl rfl ?_ | (refine Hp.st H 0 rfl rfl rfl rfl rfl ?_; intro h H) | (refine Hp.st H 1 rfl rfl rfl rfl rfl ?_; intro h H) | (refine Hp.st H 2 rfl rfl rfl rfl rfl ?_; intro h H) | (refine Hp.st H 3 rfl rfl rfl rfl rfl ?_; intro h H) | (refine Hp.st H 4 rfl rfl rfl rfl rfl ?_; intro h H) | (refine Hp.st H 5 rfl rfl rfl rfl rfl ?_; intro h H) | refine Drawn.mk (by kernel_rfl) ?_ | refine WrapK.i64 (by omega) (by omega) ?_ | refine WrapK.u64 (by omega) (by omega) ?_ | refine WrapK.u32 (by omega) (by omega) ?_ | refine WrapK.u8 (by omega) (by omega) ?_ | refine iteT (by omega) ?_ | refine iteF (by omega) ?_ | refine iteET (by omega) ?_ | refine iteEF (by omega) ?_ | refine iteNT (by omega) ?_ | refine iteNF (by omega) ?_); conv => whnf)
  have HH : Hp h0 _ (Res.ob g10 (.cells jR.cells.toArray 32 (0, 0)) :: Res.pol g s1 [jF] bR bV bM 2 1 1 1 :: Res.mp pI Rul.enc bR [(3, jR)] :: Res.mp pI Vlv.enc bV [(0, ⟨jL, s, jC, .slice (some ⟨vb, vo, none⟩) vn vc⟩)] :: Res.mp pI ptrV bM [(1, b)] :: Res.bag [⟨jL, s, jC, .slice (some ⟨vb, vo, none⟩) vn vc⟩] :: Res.mss [(b, jM3)] :: Res.ob q4 (.cells (Vd.cells ⟨3, 3, 5, false⟩).toArray 69 (0, 0)) :: Res.ob q0 (.cells (Vd.cells (jv 0)).toArray 69 (0, 0)) :: Res.ob q1 (.cells (Vd.cells (jv 1)).toArray 69 (0, 0)) :: Res.ob q2 (.cells (Vd.cells (jv 2)).toArray 69 (0, 0)) :: Res.ob q3 (.cells (Vd.cells (jv 3)).toArray 69 (0, 0)) :: Res.ob g4 (.cells jH.cells.toArray 67 (0, 0)) :: Res.ob g3 (.cells (jL.cells (.slice (some ⟨ge, 0, none⟩) 2 2)).toArray 24 (0, 0)) :: Res.ob ge (.cells (jL.es.flatMap Ent.cells).toArray 81 (0, 0)) :: Res.ob g2 (.cells jM.cells.toArray 60 (0, 0)) :: Res.ob gc (.cells (jC.flatMap cI).toArray 3 (0, 0)) :: []) := H
  repeat clear H
  have H := HH
  clear HH
  have HH : Hp h0 _ (Res.pol g s1 [jF] bR bV bM 2 1 1 1 :: Res.mp pI Rul.enc bR [(3, jR)] :: Res.mp pI Vlv.enc bV [(0, ⟨jL, s, jC, .slice (some ⟨vb, vo, none⟩) vn vc⟩)] :: Res.mp pI ptrV bM [(1, b)] :: Res.bag [⟨jL, s, jC, .slice (some ⟨vb, vo, none⟩) vn vc⟩] :: Res.mss [(b, jM3)] :: Res.ob g10 (.cells jR.cells.toArray 32 (0, 0)) :: Res.ob q4 (.cells (Vd.cells ⟨3, 3, 5, false⟩).toArray 69 (0, 0)) :: Res.ob q0 (.cells (Vd.cells (jv 0)).toArray 69 (0, 0)) :: Res.ob q1 (.cells (Vd.cells (jv 1)).toArray 69 (0, 0)) :: Res.ob q2 (.cells (Vd.cells (jv 2)).toArray 69 (0, 0)) :: Res.ob q3 (.cells (Vd.cells (jv 3)).toArray 69 (0, 0)) :: Res.ob g4 (.cells jH.cells.toArray 67 (0, 0)) :: Res.ob g3 (.cells (jL.cells (.slice (some ⟨ge, 0, none⟩) 2 2)).toArray 24 (0, 0)) :: Res.ob ge (.cells (jL.es.flatMap Ent.cells).toArray 81 (0, 0)) :: Res.ob g2 (.cells jM.cells.toArray 60 (0, 0)) :: Res.ob gc (.cells (jC.flatMap cI).toArray 3 (0, 0)) :: []) := H.sub ⟨[], by rw [List.append_nil]; exact List.perm_append_comm (l₁ := [_, _, _, _, _, _]) (l₂ := [_]) |>.append_right [_, _, _, _, _, _, _, _, _, _]⟩
  repeat clear H
  have H := HH
  clear HH
  have hv : val ((12, ([] : List Nat)).fst) = .pointer (some ⟨q0, 0, none⟩) := hv0
  rw [hv]
  clear hv
  have hv : val ((13, ([] : List Nat)).fst) = .pointer (some ⟨q1, 0, none⟩) := hv1
  rw [hv]
  clear hv
  have hv : val ((14, ([] : List Nat)).fst) = .pointer (some ⟨q2, 0, none⟩) := hv2
  rw [hv]
  clear hv
  have hv : val ((15, ([] : List Nat)).fst) = .pointer (some ⟨q3, 0, none⟩) := hv3
  rw [hv]
  clear hv
  refine Hp.ld H 8 rfl rfl ?_
  conv => whnf
  repeat ((first | refine cnd_intro (by first | (simp; done) | (simp; omega) | omega | (simp only [Bool.and_eq_true, decide_eq_true_eq]; omega)) ?_ | refine Hp.ld H 0 rfl rfl ?_ | refine Hp.ld H 1 rfl rfl ?_ | refine Hp.ld H 2 rfl rfl ?_ | refine Hp.ld H 3 rfl rfl ?_ | refine Hp.ld H 4 rfl rfl ?_ | refine Hp.ld H 5 rfl rfl ?_ | (refine Hp.st H 0 rfl rfl rfl rfl rfl ?_; intro h H) | (refine Hp.st H 1 rfl rfl rfl rfl rfl ?_; intro h H) | (refine Hp.st H 2 rfl rfl rfl rfl rfl ?_; intro h H) | (refine Hp.st H 3 rfl rfl rfl rfl rfl ?_; intro h H) | (refine Hp.st H 4 rfl rfl rfl rfl rfl ?_; intro h H) | (refine Hp.st H 5 rfl rfl rfl rfl rfl ?_; intro h H) | refine Drawn.mk (by kernel_rfl) ?_ | refine WrapK.i64 (by omega) (by omega) ?_ | refine WrapK.u64 (by omega) (by omega) ?_ | refine WrapK.u32 (by omega) (by omega) ?_ | refine WrapK.u8 (by omega) (by omega) ?_ | refine iteT (by omega) ?_ | refine iteF (by omega) ?_ | refine iteET (by omega) ?_ | refine iteEF (by omega) ?_ | refine iteNT (by omega) ?_ | refine iteNF (by omega) ?_); conv => whnf)
  repeat (first | (refine FillK.row rfl ?_; conv => whnf) | (refine FillK.lit rfl ?_; conv => whnf))
  conv => whnf
  repeat ((first | refine cnd_intro (by first | (simp; done) | (simp; omega) | omega | (simp only [Bool.and_eq_true, decide_eq_true_eq]; omega)) ?_ | refine Hp.ld H 0 rfl rfl ?_ | refine Hp.ld H 1 rfl rfl ?_ | refine Hp.ld H 2 rfl rfl ?_ | refine Hp.ld H 3 rfl rfl ?_ | refine Hp.ld H 4 rfl rfl ?_ | refine Hp.ld H 5 rfl rfl ?_ | (refine Hp.st H 0 rfl rfl rfl rfl rfl ?_; intro h H) | (refine Hp.st H 1 rfl rfl rfl rfl rfl ?_; intro h H) | (refine Hp.st H 2 rfl rfl rfl rfl rfl ?_; intro h H) | (refine Hp.st H 3 rfl rfl rfl rfl rfl ?_; intro h H) | (refine Hp.st H 4 rfl rfl rfl rfl rfl ?_; intro h H) | (refine Hp.st H 5 rfl rfl rfl rfl rfl ?_; intro h H) | refine Drawn.mk (by kernel_rfl) ?_ | refine WrapK.i64 (by omega) (by omega) ?_ | refine WrapK.u64 (by omega) (by omega) ?_ | refine WrapK.u32 (by omega) (by omega) ?_ | refine WrapK.u8 (by omega) (by omega) ?_ | refine iteT (by omega) ?_ | refine iteF (by omega) ?_ | refine iteET (by omega) ?_ | refine iteEF (by omega) ?_ | refine iteNT (by omega) ?_ | refine iteNF (by omega) ?_); conv => whnf)
  refine EqK.gen (EA_ok _) (b := true) rfl (by kernel_rfl) rfl rfl (by kernel_rfl) ?_
  conv => whnf
  repeat ((first | refine cnd_intro (by first | (simp; done) | (simp; omega) | omega | (simp only [Bool.and_eq_true, decide_eq_true_eq]; omega)) ?_ | refine Hp.ld H 0 rfl rfl ?_ | refine Hp.ld H 1 rfl rfl ?_ | refine Hp.ld H 2 rfl rfl ?_ | refine Hp.ld H 3 rfl rfl ?_ | refine Hp.ld H 4 rfl rfl ?_ | refine Hp.ld H 5 rfl rfl ?_ | (refine Hp.st H 0 rfl rfl rfl rfl rfl ?_; intro h H) | (refine Hp.st H 1 rfl rfl rfl rfl rfl ?_; intro h H) | (refine Hp.st H 2 rfl rfl rfl rfl rfl ?_; intro h H) | (refine Hp.st H 3 rfl rfl rfl rfl rfl ?_; intro h H) | (refine Hp.st H 4 rfl rfl rfl rfl rfl ?_; intro h H) | (refine Hp.st H 5 rfl rfl rfl rfl rfl ?_; intro h H) | refine Drawn.mk (by kernel_rfl) ?_ | refine WrapK.i64 (by omega) (by omega) ?_ | refine WrapK.u64 (by omega) (by omega) ?_ | refine WrapK.u32 (by omega) (by omega) ?_ | refine WrapK.u8 (by omega) (by omega) ?_ | refine iteT (by omega) ?_ | refine iteF (by omega) ?_ | refine iteET (by omega) ?_ | refine iteEF (by omega) ?_ | refine iteNT (by omega) ?_ | refine iteNF (by omega) ?_); conv => whnf)
  refine Hp.ld H 9 rfl rfl ?_
  conv => whnf
  repeat ((first | refine cnd_intro (by first | (simp; done) | (simp; omega) | omega | (simp only [Bool.and_eq_true, decide_eq_true_eq]; omega)) ?_ | refine Hp.ld H 0 rfl rfl ?_ | refine Hp.ld H 1 rfl rfl ?_ | refine Hp.ld H 2 rfl rfl ?_ | refine Hp.ld H 3 rfl rfl ?_ | refine Hp.ld H 4 rfl rfl ?_ | refine Hp.ld H 5 rfl rfl ?_ | (refine Hp.st H 0 rfl rfl rfl rfl rfl ?_; intro h H) | (refine Hp.st H 1 rfl rfl rfl rfl rfl ?_; intro h H) | (refine Hp.st H 2 rfl rfl rfl rfl rfl ?_; intro h H) | (refine Hp.st H 3 rfl rfl rfl rfl rfl ?_; intro h H) | (refine Hp.st H 4 rfl rfl rfl rfl rfl ?_; intro h H) | (refine Hp.st H 5 rfl rfl rfl rfl rfl ?_; intro h H) | refine Drawn.mk (by kernel_rfl) ?_ | refine WrapK.i64 (by omega) (by omega) ?_ | refine WrapK.u64 (by omega) (by omega) ?_ | refine WrapK.u32 (by omega) (by omega) ?_ | refine WrapK.u8 (by omega) (by omega) ?_ | refine iteT (by omega) ?_ | refine iteF (by omega) ?_ | refine iteET (by omega) ?_ | refine iteEF (by omega) ?_ | refine iteNT (by omega) ?_ | refine iteNF (by omega) ?_); conv => whnf)
  refine Hp.ld H 10 rfl rfl ?_
  conv => whnf
  repeat ((first | refine cnd_intro (by first | (simp; done) | (simp; omega) | omega | (simp only [Bool.and_eq_true, decide_eq_true_eq]; omega)) ?_ | refine Hp.ld H 0 rfl rfl ?_ | refine Hp.ld H 1 rfl rfl ?_ | refine Hp.ld H 2 rfl rfl ?_ | refine Hp.ld H 3 rfl rfl ?_ | refine Hp.ld H 4 rfl rfl ?_ | refine Hp.ld H 5 rfl rfl ?_ | (refine Hp.st H 0 rfl rfl rfl rfl rfl ?_; intro h H) | (refine Hp.st H 1 rfl rfl rfl rfl rfl ?_; intro h H) | (refine Hp.st H 2 rfl rfl rfl rfl rfl ?_; intro h H) | (refine Hp.st H 3 rfl rfl rfl rfl rfl ?_; intro h H) | (refine Hp.st H 4 rfl rfl rfl rfl rfl ?_; intro h H) | (refine Hp.st H 5 rfl rfl rfl rfl rfl ?_; intro h H) | refine Drawn.mk (by kernel_rfl) ?_ | refine WrapK.i64 (by omega) (by omega) ?_ | refine WrapK.u64 (by omega) (by omega) ?_ | refine WrapK.u32 (by omega) (by omega) ?_ | refine WrapK.u8 (by omega) (by omega) ?_ | refine iteT (by omega) ?_ | refine iteF (by omega) ?_ | refine iteET (by omega) ?_ | refine iteEF (by omega) ?_ | refine iteNT (by omega) ?_ | refine iteNF (by omega) ?_); conv => whnf)
  refine Hp.ld H 11 rfl rfl ?_
  conv => whnf
  repeat ((first | refine cnd_intro (by first | (simp; done) | (simp; omega) | omega | (simp only [Bool.and_eq_true, decide_eq_true_eq]; omega)) ?_ | refine Hp.ld H 0 rfl rfl ?_ | refine Hp.ld H 1 rfl rfl ?_ | refine Hp.ld H 2 rfl rfl ?_ | refine Hp.ld H 3 rfl rfl ?_ | refine Hp.ld H 4 rfl rfl ?_ | refine Hp.ld H 5 rfl rfl ?_ | (refine Hp.st H 0 rfl rfl rfl rfl rfl ?_; intro h H) | (refine Hp.st H 1 rfl rfl rfl rfl rfl ?_; intro h H) | (refine Hp.st H 2 rfl rfl rfl rfl rfl ?_; intro h H) | (refine Hp.st H 3 rfl rfl rfl rfl rfl ?_; intro h H) | (refine Hp.st H 4 rfl rfl rfl rfl rfl ?_; intro h H) | (refine Hp.st H 5 rfl rfl rfl rfl rfl ?_; intro h H) | refine Drawn.mk (by kernel_rfl) ?_ | refine WrapK.i64 (by omega) (by omega) ?_ | refine WrapK.u64 (by omega) (by omega) ?_ | refine WrapK.u32 (by omega) (by omega) ?_ | refine WrapK.u8 (by omega) (by omega) ?_ | refine iteT (by omega) ?_ | refine iteF (by omega) ?_ | refine iteET (by omega) ?_ | refine iteEF (by omega) ?_ | refine iteNT (by omega) ?_ | refine iteNF (by omega) ?_); conv => whnf)
  refine Hp.ld H 11 rfl rfl ?_
  conv => whnf
  repeat ((first | refine cnd_intro (by first | (simp; done) | (simp; omega) | omega | (simp only [Bool.and_eq_true, decide_eq_true_eq]; omega)) ?_ | refine Hp.ld H 0 rfl rfl ?_ | refine Hp.ld H 1 rfl rfl ?_ | refine Hp.ld H 2 rfl rfl ?_ | refine Hp.ld H 3 rfl rfl ?_ | refine Hp.ld H 4 rfl rfl ?_ | refine Hp.ld H 5 rfl rfl ?_ | (refine Hp.st H 0 rfl rfl rfl rfl rfl ?_; intro h H) | (refine Hp.st H 1 rfl rfl rfl rfl rfl ?_; intro h H) | (refine Hp.st H 2 rfl rfl rfl rfl rfl ?_; intro h H) | (refine Hp.st H 3 rfl rfl rfl rfl rfl ?_; intro h H) | (refine Hp.st H 4 rfl rfl rfl rfl rfl ?_; intro h H) | (refine Hp.st H 5 rfl rfl rfl rfl rfl ?_; intro h H) | refine Drawn.mk (by kernel_rfl) ?_ | refine WrapK.i64 (by omega) (by omega) ?_ | refine WrapK.u64 (by omega) (by omega) ?_ | refine WrapK.u32 (by omega) (by omega) ?_ | refine WrapK.u8 (by omega) (by omega) ?_ | refine iteT (by omega) ?_ | refine iteF (by omega) ?_ | refine iteET (by omega) ?_ | refine iteEF (by omega) ?_ | refine iteNT (by omega) ?_ | refine iteNF (by omega) ?_); conv => whnf)
  refine Hp.ld H 7 rfl rfl ?_
  conv => whnf
  repeat ((first | refine cnd_intro (by first | (simp; done) | (simp; omega) | omega | (simp only [Bool.and_eq_true, decide_eq_true_eq]; omega)) ?_ | refine Hp.ld H 0 rfl rfl ?_ | refine Hp.ld H 1 rfl rfl ?_ | refine Hp.ld H 2 rfl rfl ?_ | refine Hp.ld H 3 rfl rfl ?_ | refine Hp.ld H 4 rfl rfl ?_ | refine Hp.ld H 5 rfl rfl ?_ | (refine Hp.st H 0 rfl rfl rfl rfl rfl ?_; intro h H) | (refine Hp.st H 1 rfl rfl rfl rfl rfl ?_; intro h H) | (refine Hp.st H 2 rfl rfl rfl rfl rfl ?_; intro h H) | (refine Hp.st H 3 rfl rfl rfl rfl rfl ?_; intro h H) | (refine Hp.st H 4 rfl rfl rfl rfl rfl ?_; intro h H) | (refine Hp.st H 5 rfl rfl rfl rfl rfl ?_; intro h H) | refine Drawn.mk (by kernel_rfl) ?_ | refine WrapK.i64 (by omega) (by omega) ?_ | refine WrapK.u64 (by omega) (by omega) ?_ | refine WrapK.u32 (by omega) (by omega) ?_ | refine WrapK.u8 (by omega) (by omega) ?_ | refine iteT (by omega) ?_ | refine iteF (by omega) ?_ | refine iteET (by omega) ?_ | refine iteEF (by omega) ?_ | refine iteNT (by omega) ?_ | refine iteNF (by omega) ?_); conv => whnf)
  refine CallK.mono (pcounts_call _ g s1 bR bV bM 2 1 1 1 (pol_ob (i := 0) H rfl)) ?_
  rintro _ h18 ⟨k5, rfl⟩
  replace H := H.and k5
  clear k5
  conv => whnf
  repeat ((first | refine cnd_intro (by first | (simp; done) | (simp; omega) | omega | (simp only [Bool.and_eq_true, decide_eq_true_eq]; omega)) ?_ | refine Hp.ld H 0 rfl rfl ?_ | refine Hp.ld H 1 rfl rfl ?_ | refine Hp.ld H 2 rfl rfl ?_ | refine Hp.ld H 3 rfl rfl ?_ | refine Hp.ld H 4 rfl rfl ?_ | refine Hp.ld H 5 rfl rfl ?_ | (refine Hp.st H 0 rfl rfl rfl rfl rfl ?_; intro h H) | (refine Hp.st H 1 rfl rfl rfl rfl rfl ?_; intro h H) | (refine Hp.st H 2 rfl rfl rfl rfl rfl ?_; intro h H) | (refine Hp.st H 3 rfl rfl rfl rfl rfl ?_; intro h H) | (refine Hp.st H 4 rfl rfl rfl rfl rfl ?_; intro h H) | (refine Hp.st H 5 rfl rfl rfl rfl rfl ?_; intro h H) | refine Drawn.mk (by kernel_rfl) ?_ | refine WrapK.i64 (by omega) (by omega) ?_ | refine WrapK.u64 (by omega) (by omega) ?_ | refine WrapK.u32 (by omega) (by omega) ?_ | refine WrapK.u8 (by omega) (by omega) ?_ | refine iteT (by omega) ?_ | refine iteF (by omega) ?_ | refine iteET (by omega) ?_ | refine iteEF (by omega) ?_ | refine iteNT (by omega) ?_ | refine iteNF (by omega) ?_); conv => whnf)
  repeat (first | (refine FillK.row rfl ?_; conv => whnf) | (refine FillK.lit rfl ?_; conv => whnf))
  conv => whnf
  repeat ((first | refine cnd_intro (by first | (simp; done) | (simp; omega) | omega | (simp only [Bool.and_eq_true, decide_eq_true_eq]; omega)) ?_ | refine Hp.ld H 0 rfl rfl ?_ | refine Hp.ld H 1 rfl rfl ?_ | refine Hp.ld H 2 rfl rfl ?_ | refine Hp.ld H 3 rfl rfl ?_ | refine Hp.ld H 4 rfl rfl ?_ | refine Hp.ld H 5 rfl rfl ?_ | (refine Hp.st H 0 rfl rfl rfl rfl rfl ?_; intro h H) | (refine Hp.st H 1 rfl rfl rfl rfl rfl ?_; intro h H) | (refine Hp.st H 2 rfl rfl rfl rfl rfl ?_; intro h H) | (refine Hp.st H 3 rfl rfl rfl rfl rfl ?_; intro h H) | (refine Hp.st H 4 rfl rfl rfl rfl rfl ?_; intro h H) | (refine Hp.st H 5 rfl rfl rfl rfl rfl ?_; intro h H) | refine Drawn.mk (by kernel_rfl) ?_ | refine WrapK.i64 (by omega) (by omega) ?_ | refine WrapK.u64 (by omega) (by omega) ?_ | refine WrapK.u32 (by omega) (by omega) ?_ | refine WrapK.u8 (by omega) (by omega) ?_ | refine iteT (by omega) ?_ | refine iteF (by omega) ?_ | refine iteET (by omega) ?_ | refine iteEF (by omega) ?_ | refine iteNT (by omega) ?_ | refine iteNF (by omega) ?_); conv => whnf)
  refine EqK.gen (EA_ok _) (b := true) rfl (by kernel_rfl) rfl rfl (by kernel_rfl) ?_
  conv => whnf
  repeat ((first | refine cnd_intro (by first | (simp; done) | (simp; omega) | omega | (simp only [Bool.and_eq_true, decide_eq_true_eq]; omega)) ?_ | refine Hp.ld H 0 rfl rfl ?_ | refine Hp.ld H 1 rfl rfl ?_ | refine Hp.ld H 2 rfl rfl ?_ | refine Hp.ld H 3 rfl rfl ?_ | refine Hp.ld H 4 rfl rfl ?_ | refine Hp.ld H 5 rfl rfl ?_ | (refine Hp.st H 0 rfl rfl rfl rfl rfl ?_; intro h H) | (refine Hp.st H 1 rfl rfl rfl rfl rfl ?_; intro h H) | (refine Hp.st H 2 rfl rfl rfl rfl rfl ?_; intro h H) | (refine Hp.st H 3 rfl rfl rfl rfl rfl ?_; intro h H) | (refine Hp.st H 4 rfl rfl rfl rfl rfl ?_; intro h H) | (refine Hp.st H 5 rfl rfl rfl rfl rfl ?_; intro h H) | refine Drawn.mk (by kernel_rfl) ?_ | refine WrapK.i64 (by omega) (by omega) ?_ | refine WrapK.u64 (by omega) (by omega) ?_ | refine WrapK.u32 (by omega) (by omega) ?_ | refine WrapK.u8 (by omega) (by omega) ?_ | refine iteT (by omega) ?_ | refine iteF (by omega) ?_ | refine iteET (by omega) ?_ | refine iteEF (by omega) ?_ | refine iteNT (by omega) ?_ | refine iteNF (by omega) ?_); conv => whnf)
  refine Hp.ld H 6 rfl rfl ?_
  conv => whnf
  repeat ((first | refine cnd_intro (by first | (simp; done) | (simp; omega) | omega | (simp only [Bool.and_eq_true, decide_eq_true_eq]; omega)) ?_ | refine Hp.ld H 0 rfl rfl ?_ | refine Hp.ld H 1 rfl rfl ?_ | refine Hp.ld H 2 rfl rfl ?_ | refine Hp.ld H 3 rfl rfl ?_ | refine Hp.ld H 4 rfl rfl ?_ | refine Hp.ld H 5 rfl rfl ?_ | (refine Hp.st H 0 rfl rfl rfl rfl rfl ?_; intro h H) | (refine Hp.st H 1 rfl rfl rfl rfl rfl ?_; intro h H) | (refine Hp.st H 2 rfl rfl rfl rfl rfl ?_; intro h H) | (refine Hp.st H 3 rfl rfl rfl rfl rfl ?_; intro h H) | (refine Hp.st H 4 rfl rfl rfl rfl rfl ?_; intro h H) | (refine Hp.st H 5 rfl rfl rfl rfl rfl ?_; intro h H) | refine Drawn.mk (by kernel_rfl) ?_ | refine WrapK.i64 (by omega) (by omega) ?_ | refine WrapK.u64 (by omega) (by omega) ?_ | refine WrapK.u32 (by omega) (by omega) ?_ | refine WrapK.u8 (by omega) (by omega) ?_ | refine iteT (by omega) ?_ | refine iteF (by omega) ?_ | refine iteET (by omega) ?_ | refine iteEF (by omega) ?_ | refine iteNT (by omega) ?_ | refine iteNF (by omega) ?_); conv => whnf)
  refine CallK.mono (rules_call H (by simp) (by decide)) ?_
  rintro _ h19 ⟨rb, rc, ks, rfl, hks, P⟩
  have hk : Keep (fun _ => False) h0 h19 := P.keep
  clear P H
  conv => whnf
  repeat ((first | refine cnd_intro (by first | (simp; done) | (simp; omega) | omega | (simp only [Bool.and_eq_true, decide_eq_true_eq]; omega)) ?_ | refine Hp.ld H 0 rfl rfl ?_ | refine Hp.ld H 1 rfl rfl ?_ | refine Hp.ld H 2 rfl rfl ?_ | refine Hp.ld H 3 rfl rfl ?_ | refine Hp.ld H 4 rfl rfl ?_ | refine Hp.ld H 5 rfl rfl ?_ | (refine Hp.st H 0 rfl rfl rfl rfl rfl ?_; intro h H) | (refine Hp.st H 1 rfl rfl rfl rfl rfl ?_; intro h H) | (refine Hp.st H 2 rfl rfl rfl rfl rfl ?_; intro h H) | (refine Hp.st H 3 rfl rfl rfl rfl rfl ?_; intro h H) | (refine Hp.st H 4 rfl rfl rfl rfl rfl ?_; intro h H) | (refine Hp.st H 5 rfl rfl rfl rfl rfl ?_; intro h H) | refine Drawn.mk (by kernel_rfl) ?_ | refine WrapK.i64 (by omega) (by omega) ?_ | refine WrapK.u64 (by omega) (by omega) ?_ | refine WrapK.u32 (by omega) (by omega) ?_ | refine WrapK.u8 (by omega) (by omega) ?_ | refine iteT (by omega) ?_ | refine iteF (by omega) ?_ | refine iteET (by omega) ?_ | refine iteEF (by omega) ?_ | refine iteNT (by omega) ?_ | refine iteNF (by omega) ?_); conv => whnf)
  exact ⟨rfl, hk⟩

end Go.Proofs.Ytloghahkelogbaa
