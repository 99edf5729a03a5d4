import Derived.Test.YtloghahkelogbaaPStream
import Derived.Test.YtloghahkelogbaaOpt
import Derived.Test.YtloghahkelogbaaGate4
namespace Go.Proofs.Ytloghahkelogbaa
open Go.Vc
set_option maxRecDepth 10000
set_option maxHeartbeats 4000000

/-! ### police: what lies there -/

structure Rul where
  most : Int
  gate : Int
  meter : Int

def Rul.cells (r : Rul) : List Value := [.int .i64 r.most, .int .i64 r.gate, .int .i64 r.meter]
def Rul.enc (r : Rul) : Value := .agg r.cells.toArray

/-- A valve, and where its entries and classes lie. -/
structure Vlv where
  l : Gl
  s : Value
  cs : List Int
  s2 : Value

def Vlv.cells (v : Vlv) : List Value := v.l.cells v.s ++ [v.s2]
def Vlv.enc (v : Vlv) : Value := .agg v.cells.toArray

def pI (n : Int) : Value := .int .i64 n
def ptrV (b : Nat) : Value := .pointer (some ⟨b, 0, none⟩)

theorem pkey_ok : KeyT EW 3 pI := KeyT.int EW_ok (y := ⟨.int .i64, 1, 8, false, some (.int .i64 0)⟩) rfl rfl

/-- What lies behind the table's slice in a police. -/
def polR (bR bV bM : Nat) (k0 k1 k2 k3 : Int) : List Value := [.map (some bR), .map (some bV), .map (some bM), .int .i64 k0, .int .i64 k1, .int .i64 k2, .int .i64 k3]

def Res.pol (g : Nat) (s : Value) (fs : List Flt) (bR bV bM : Nat) (k0 k1 k2 k3 : Int) : Res := Res.ptab (polR bR bV bM k0 k1 k2 k3) 58 g s fs

theorem pol_ob {h0 h : Heap} {rs : List Res} {i g : Nat} {s : Value} {fs : List Flt} {bR bV bM : Nat} {k0 k1 k2 k3 : Int} (H : Hp h0 h rs) (hn : nth rs i = some (Res.pol g s fs bR bV bM k0 k1 k2 k3)) : h[g]? = some (.cells (s :: polR bR bV bM k0 k1 k2 k3).toArray 58 (0, 0)) :=
  (ptab_view H hn).tab

theorem pnew_call (h0 : Heap) : CallK Try.prog 7 #[] h0 fun v h' => ∃ g bR bV bM, v = .pointer (some ⟨g, 0, none⟩) ∧
    Hp h0 h' [Res.pol g (.slice none 0 0) [] bR bV bM 0 0 0 0, Res.mp pI Rul.enc bR [], Res.mp pI Vlv.enc bV [], Res.mp pI ptrV bM []] := by
  refine CallK.of_vc EW_ok (args := []) [0] Try.func7 rfl (Nat.le_of_ble_eq_true rfl) ?_
  have H := Hp.start h0
  conv => whnf
  intro bR h1 N
  replace H := Hp.fresh_map (enc := pI) (f := Rul.enc) (H.new N)
  clear N
  conv => whnf
  intro bV h2 N
  replace H := Hp.fresh_map (enc := pI) (f := Vlv.enc) (H.new N)
  clear N
  conv => whnf
  intro bM h3 N
  replace H := Hp.fresh_map (enc := pI) (f := ptrV) (H.new N)
  clear N
  conv => whnf
  refine FillK.lit rfl ?_
  conv => whnf
  intro g h4 N
  replace H := H.new N
  clear N
  conv => whnf
  repeat ((first | refine cnd_intro (by first | (simp; done) | (simp; omega) | omega | (simp only [Bool.and_eq_true, decide_eq_true_eq]; omega)) ?_ | refine Hp.ld H 0 rfl rfl ?_ | refine Hp.ld H 1 rfl rfl ?_ | refine Hp.ld H 2 rfl rfl ?_ | refine Hp.ld H 3 rfl rfl ?_ | refine Hp.ld H 4 rfl rfl ?_ | refine Hp.ld H 5 rfl rfl ?_ | (refine Hp.st H 0 rfl rfl rfl rfl rfl ?_; intro h H) | (refine Hp.st H 1 rfl rfl rfl rfl rfl ?_; intro h H) | (refine Hp.st H 2 rfl rfl rfl rfl rfl ?_; intro h H) | (refine Hp.st H 3 rfl rfl rfl rfl rfl ?_; intro h H) | (refine Hp.st H 4 rfl rfl rfl rfl rfl ?_; intro h H) | (refine Hp.st H 5 rfl rfl rfl rfl rfl ?_; intro h H) | (intro b h N; replace H := Hp.new H N; clear N) | refine Drawn.mk (by kernel_rfl) ?_ | refine FillK.row rfl ?_ | refine FillK.lit rfl ?_ | refine WrapK.i64 (by omega) (by omega) ?_ | refine WrapK.u64 (by omega) (by omega) ?_ | refine WrapK.u32 (by omega) (by omega) ?_ | refine WrapK.u8 (by omega) (by omega) ?_ | refine iteT (by omega) ?_ | refine iteF (by omega) ?_ | refine iteET (by omega) ?_ | refine iteEF (by omega) ?_ | refine iteNT (by omega) ?_ | refine iteNF (by omega) ?_); conv => whnf)
  refine ⟨g, bR, bV, bM, rfl, ?_⟩
  have H1 : Hp h0 h4 (Res.ob g (.cells (.slice none 0 0 :: polR bR bV bM 0 0 0 0).toArray 58 (0, 0)) :: Res.mp pI ptrV bM [] :: Res.mp pI Vlv.enc bV [] :: Res.mp pI Rul.enc bR [] :: []) := H
  have H2 : Hp h0 h4 (Res.pol g (.slice none 0 0) [] bR bV bM 0 0 0 0 :: Res.mp pI ptrV bM [] :: Res.mp pI Vlv.enc bV [] :: Res.mp pI Rul.enc bR [] :: []) := (H1.nil 62 9).pair
  exact H2.sub ⟨[], by
    rw [List.append_nil]
    exact List.Perm.cons _ ((List.Perm.swap _ _ _).trans ((List.Perm.cons _ (List.Perm.swap _ _ _)).trans (List.Perm.swap _ _ _)))⟩

theorem pcounts_call (h0 : Heap) (g : Nat) (s : Value) (bR bV bM : Nat) (k0 k1 k2 k3 : Int) (hs : h0[g]? = some (.cells (s :: polR bR bV bM k0 k1 k2 k3).toArray 58 (0, 0))) :
    CallK Try.prog 18 #[.pointer (some ⟨g, 0, none⟩)] h0 fun v h' => Keep (fun _ => False) h0 h' ∧ v = .agg #[.int .i64 k0, .int .i64 k1, .int .i64 k2, .int .i64 k3] := by
  refine CallK.of_vc EW_ok [0, 2] Try.func18 rfl (Nat.le_of_ble_eq_true rfl) ?_
  have H := Hp.start h0
  conv => whnf
  repeat ((first | refine cnd_intro (by first | (simp; done) | (simp; omega) | omega | (simp only [Bool.and_eq_true, decide_eq_true_eq]; omega)) ?_ | refine Hp.ld H 0 rfl rfl ?_ | refine Hp.ld H 1 rfl rfl ?_ | refine Hp.ld H 2 rfl rfl ?_ | refine Hp.ld H 3 rfl rfl ?_ | refine Hp.ld H 4 rfl rfl ?_ | refine Hp.ld H 5 rfl rfl ?_ | (refine Hp.st H 0 rfl rfl rfl rfl rfl ?_; intro h H) | (refine Hp.st H 1 rfl rfl rfl rfl rfl ?_; intro h H) | (refine Hp.st H 2 rfl rfl rfl rfl rfl ?_; intro h H) | (refine Hp.st H 3 rfl rfl rfl rfl rfl ?_; intro h H) | (refine Hp.st H 4 rfl rfl rfl rfl rfl ?_; intro h H) | (refine Hp.st H 5 rfl rfl rfl rfl rfl ?_; intro h H) | (intro b h N; replace H := Hp.new H N; clear N) | refine Drawn.mk (by kernel_rfl) ?_ | refine FillK.row rfl ?_ | refine FillK.lit rfl ?_ | refine WrapK.i64 (by omega) (by omega) ?_ | refine WrapK.u64 (by omega) (by omega) ?_ | refine WrapK.u32 (by omega) (by omega) ?_ | refine WrapK.u8 (by omega) (by omega) ?_ | refine iteT (by omega) ?_ | refine iteF (by omega) ?_ | refine iteET (by omega) ?_ | refine iteEF (by omega) ?_ | refine iteNT (by omega) ?_ | refine iteNF (by omega) ?_); conv => whnf)
  refine LdK.lit (H.keep.get hs (fun f => f)) rfl ?_
  conv => whnf
  repeat ((first | refine cnd_intro (by first | (simp; done) | (simp; omega) | omega | (simp only [Bool.and_eq_true, decide_eq_true_eq]; omega)) ?_ | refine Hp.ld H 0 rfl rfl ?_ | refine Hp.ld H 1 rfl rfl ?_ | refine Hp.ld H 2 rfl rfl ?_ | refine Hp.ld H 3 rfl rfl ?_ | refine Hp.ld H 4 rfl rfl ?_ | refine Hp.ld H 5 rfl rfl ?_ | (refine Hp.st H 0 rfl rfl rfl rfl rfl ?_; intro h H) | (refine Hp.st H 1 rfl rfl rfl rfl rfl ?_; intro h H) | (refine Hp.st H 2 rfl rfl rfl rfl rfl ?_; intro h H) | (refine Hp.st H 3 rfl rfl rfl rfl rfl ?_; intro h H) | (refine Hp.st H 4 rfl rfl rfl rfl rfl ?_; intro h H) | (refine Hp.st H 5 rfl rfl rfl rfl rfl ?_; intro h H) | (intro b h N; replace H := Hp.new H N; clear N) | refine Drawn.mk (by kernel_rfl) ?_ | refine FillK.row rfl ?_ | refine FillK.lit rfl ?_ | refine WrapK.i64 (by omega) (by omega) ?_ | refine WrapK.u64 (by omega) (by omega) ?_ | refine WrapK.u32 (by omega) (by omega) ?_ | refine WrapK.u8 (by omega) (by omega) ?_ | refine iteT (by omega) ?_ | refine iteF (by omega) ?_ | refine iteET (by omega) ?_ | refine iteEF (by omega) ?_ | refine iteNT (by omega) ?_ | refine iteNF (by omega) ?_); conv => whnf)
  exact ⟨H.keep, rfl⟩

end Go.Proofs.Ytloghahkelogbaa
