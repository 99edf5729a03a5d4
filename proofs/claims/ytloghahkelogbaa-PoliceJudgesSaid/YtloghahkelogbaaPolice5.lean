import Derived.Test.YtloghahkelogbaaPolice4
namespace Go.Proofs.Ytloghahkelogbaa
open Go.Vc
set_option maxRecDepth 10000
set_option maxHeartbeats 8000000

/-! ### police: valves that lie there -/

theorem _root_.Go.Vc.Elem.stay {h h' : Heap} {A : Option Addr} {off size : Nat} {cs : List Value} (x : Elem h A off size cs) (hk : ∀ b o, A = some ⟨b, o, none⟩ → h'[b]? = h[b]?) : Elem h' A off size cs := by
  obtain ⟨b, o, c, T, fz, hA, hb, hl, hc⟩ := x.out
  exact ⟨b, o, c, T, fz, hA, (hk b o hA).trans hb, hl, hc⟩

structure VlvAt (h : Heap) (v : Vlv) : Prop where
  ents : EntsV h v.s v.l.es
  ints : IntsV h v.s2 v.cs
  lt1 : ∀ k, blkOf v.s k → k < h.size
  lt2 : ∀ k, blkOf v.s2 k → k < h.size

theorem lt_stay {h h' : Heap} {k : Nat} (hl : k < h.size) (e : h'[k]? = h[k]?) : k < h'.size := by
  rw [Array.getElem?_eq_getElem hl] at e
  exact (Array.getElem?_eq_some_iff.1 e).1

theorem VlvAt.stay {h h' : Heap} {v : Vlv} (x : VlvAt h v) (hk : ∀ k, blkOf v.s k ∨ blkOf v.s2 k → h'[k]? = h[k]?) : VlvAt h' v := by
  obtain ⟨h1, h2, l1, l2⟩ := x
  refine ⟨?_, ?_, fun k hb => lt_stay (l1 k hb) (hk k (.inl hb)), fun k hb => lt_stay (l2 k hb) (hk k (.inr hb))⟩
  · obtain ⟨A, c, hv, hc, he⟩ := h1.out
    refine ⟨A, c, hv, hc, fun i y hy => (he i y hy).stay fun b o hA => hk b (.inl ?_)⟩
    rw [hv, hA]
    exact rfl
  · obtain ⟨A, c, hv, hc, he⟩ := h2.out
    refine ⟨A, c, hv, hc, fun i y hy => (he i y hy).stay fun b o hA => hk b (.inr ?_)⟩
    rw [hv, hA]
    exact rfl

def Res.bag (B : List Vlv) : Res := ⟨fun k => ∃ v ∈ B, blkOf v.s k ∨ blkOf v.s2 k, fun h => ∀ v ∈ B, VlvAt h v,
  fun a k hk => by
    obtain ⟨v, hv, hb⟩ := hk
    rcases hb with hb | hb
    · exact (a v hv).lt1 k hb
    · exact (a v hv).lt2 k hb,
  fun a hk v hv => (a v hv).stay fun k hb => hk k ⟨v, hv, hb⟩⟩

theorem Hp.no_bag {h0 h : Heap} {rs : List Res} (H : Hp h0 h rs) : Hp h0 h (Res.bag [] :: rs) :=
  H.more (Keep.refl _ _) (fun x hx => by simp at hx) fun k hk => by
    obtain ⟨m, hm, _⟩ := hk
    simp at hm

theorem pkey_okA (l : List Nat) : KeyT (EA l) 3 pI := KeyT.int (EA_ok l) (y := ⟨.int .i64, 1, 8, false, some (.int .i64 0)⟩) rfl rfl

theorem own_lt {D e size n : Nat} {h : Heap} {v : Value} {xs : List Value} (o : OwnS D h e size v n xs) : ∀ k, blkOf v k → k < h.size := by
  intro k hk
  obtain ⟨_, ⟨c, rfl, _, _⟩ | ⟨b, cap, r, rfl, _, hg, _⟩⟩ := o
  · exact hk.elim
  · have e : k = b := hk
    rw [e]
    exact lt_of_get hg

/-- Two slices of one's own become a valve. -/
theorem Hp.bag_take {h0 h : Heap} {rs : List Res} {B : List Vlv} {l : Gl} {s s2 : Value} {cs : List Int} (H : Hp h0 h (Res.own s2 3 1 cs.length (cs.flatMap cI) :: Res.own s 81 2 l.es.length (l.es.flatMap Ent.cells) :: Res.bag B :: rs)) : Hp h0 h (Res.bag (⟨l, s, cs, s2⟩ :: B) :: rs) := by
  have o2 := H.get 0 rfl
  have o1 := H.get 1 rfl
  have hb : (Res.bag B).at_ h := H.get 2 rfl
  have ap := H.apart
  rw [List.pairwise_cons, List.pairwise_cons, List.pairwise_cons] at ap
  obtain ⟨p2, p1, pb, pr⟩ := ap
  have blk : ∀ k, (Res.bag (⟨l, s, cs, s2⟩ :: B)).blk k → blkOf s k ∨ blkOf s2 k ∨ (Res.bag B).blk k := fun k hk => by
    obtain ⟨v, hv, hx⟩ := hk
    rcases List.mem_cons.1 hv with rfl | hv
    · rcases hx with hx | hx
      · exact .inl hx
      · exact .inr (.inl hx)
    · exact .inr (.inr ⟨v, hv, hx⟩)
  refine ⟨H.keep, fun r hr => ?_, List.pairwise_cons.2 ⟨fun q hq k hk hqk => ?_, pr⟩⟩
  · rcases List.mem_cons.1 hr with rfl | hr
    · refine ⟨fun v hv => ?_, fun k hk => ?_⟩
      · rcases List.mem_cons.1 hv with rfl | hv
        · exact ⟨⟨(RowsV.of_own (f := Ent.cells) (D := 0) o1 (fun _ => rfl) (by decide)).out⟩, RowsV.of_own (f := cI) (D := 0) o2 (fun _ => rfl) (by decide), own_lt o1, own_lt o2⟩
        · exact hb v hv
      · rcases blk k hk with hk | hk | hk
        · exact H.own 1 rfl k hk
        · exact H.own 0 rfl k hk
        · exact H.own 2 rfl k hk
    · exact H.each r (by simp [hr])
  · rcases blk k hk with hk | hk | hk
    · exact p1 q (by simp [hq]) k hk hqk
    · exact p2 q (by simp [hq]) k hk hqk
    · exact pb q hq k hk hqk

/-- What setting a gate does. -/
def SetG (l : Gl) (cs : List Int) (n : Int) (V : VM) (B : List Vlv) (e : Nat) (V' : VM) (B' : List Vlv) : Prop :=
  ((n < 0 ∨ n ≥ 32) ∧ e = 1 ∧ V' = V ∧ B' = B) ∨ (0 ≤ n ∧ n < 32 ∧ l.check ≠ 0 ∧ e = l.check ∧ V' = V ∧ B' = B) ∨
    (0 ≤ n ∧ n < 32 ∧ l.check = 0 ∧ (cs.length ≠ l.es.length ∨ cs.any cbad = true) ∧ e = 30 ∧ V' = V ∧ B' = B) ∨
    (0 ≤ n ∧ n < 32 ∧ l.check = 0 ∧ cs.length = l.es.length ∧ cs.any cbad = false ∧ e = 0 ∧ ∃ w : Vlv, w.l = l ∧ w.cs = cs ∧ (∃ b o n c, w.s2 = .slice (some ⟨b, o, none⟩) n c) ∧ V' = mput n w V ∧ B' = w :: B)

theorem setgate_call {h0 h : Heap} {rs : List Res} {g : Nat} {s : Value} {fs : List Flt} {bR bV bM : Nat} {k0 k1 k2 k3 : Int} {R : RM} {V : VM} {M : MM} {B : List Vlv} (H : Hp h0 h (Res.pol g s fs bR bV bM k0 k1 k2 k3 :: Res.mp pI Rul.enc bR R :: Res.mp pI Vlv.enc bV V :: Res.mp pI ptrV bM M :: Res.bag B :: rs)) (n : Int) (l : Gl) (sl sc : Value) (cs : List Int)
    (hs : EntsV h sl l.es) (hc : IntsV h sc cs) (hl : l.es.length ≤ 1000) (hcl : cs.length ≤ 1000) :
    CallK Try.prog 9 #[.pointer (some ⟨g, 0, none⟩), .int .i64 n, .agg (l.cells sl).toArray, sc] h fun v h' => ∃ (e : Nat) (V' : VM) (B' : List Vlv), SetG l cs n V B e V' B' ∧ v = .int .i64 (e : Nat) ∧
      Hp h0 h' (Res.pol g s fs bR bV bM k0 k1 k2 k3 :: Res.mp pI Rul.enc bR R :: Res.mp pI Vlv.enc bV V' :: Res.mp pI ptrV bM M :: Res.bag B' :: rs) := by
  obtain ⟨A, c, rfl, hcc, _⟩ := hc.out
  obtain ⟨A2, c2, rfl, hcc2, _⟩ := hs.out
  refine CallK.of_vc (EA_ok [39, 41]) [0, 1, 2, 3, 6, 8, 9, 10, 16, 20, 32] Try.func9 rfl (Nat.le_of_ble_eq_true rfl) ?_
  conv => whnf
  intro g6 h1 N
  have kk : Keep (fun _ => False) h h1 := N.keep
  replace H := H.new N
  clear N
  by_cases a1 : n < 0
  · conv => whnf
    repeat ((first | refine cnd_intro (by first | (simp; done) | (simp; omega) | omega | (simp only [Bool.and_eq_true, decide_eq_true_eq]; omega)) ?_ | refine Hp.ld H 0 rfl rfl ?_ | refine Hp.ld H 1 rfl rfl ?_ | refine Hp.ld H 2 rfl rfl ?_ | refine Hp.ld H 3 rfl rfl ?_ | refine Hp.ld H 4 rfl rfl ?_ | refine Hp.ld H 5 rfl rfl ?_ | (refine Hp.st H 0 rfl rfl rfl rfl rfl ?_; intro h H) | (refine Hp.st H 1 rfl rfl rfl rfl rfl ?_; intro h H) | (refine Hp.st H 2 rfl rfl rfl rfl rfl ?_; intro h H) | (refine Hp.st H 3 rfl rfl rfl rfl rfl ?_; intro h H) | (refine Hp.st H 4 rfl rfl rfl rfl rfl ?_; intro h H) | (refine Hp.st H 5 rfl rfl rfl rfl rfl ?_; intro h H) | (intro b h N; replace H := Hp.new H N; clear N) | refine Drawn.mk (by kernel_rfl) ?_ | refine FillK.row rfl ?_ | refine FillK.lit rfl ?_ | refine WrapK.i64 (by omega) (by omega) ?_ | refine WrapK.u64 (by omega) (by omega) ?_ | refine WrapK.u32 (by omega) (by omega) ?_ | refine WrapK.u8 (by omega) (by omega) ?_ | refine iteT (by omega) ?_ | refine iteF (by omega) ?_ | refine iteET (by omega) ?_ | refine iteEF (by omega) ?_ | refine iteNT (by omega) ?_ | refine iteNF (by omega) ?_); conv => whnf)
    exact ⟨1, V, B, .inl ⟨.inl a1, rfl, rfl, rfl⟩, rfl, H.drop 0⟩
  by_cases a2 : n ≥ 32
  · conv => whnf
    repeat ((first | refine cnd_intro (by first | (simp; done) | (simp; omega) | omega | (simp only [Bool.and_eq_true, decide_eq_true_eq]; omega)) ?_ | refine Hp.ld H 0 rfl rfl ?_ | refine Hp.ld H 1 rfl rfl ?_ | refine Hp.ld H 2 rfl rfl ?_ | refine Hp.ld H 3 rfl rfl ?_ | refine Hp.ld H 4 rfl rfl ?_ | refine Hp.ld H 5 rfl rfl ?_ | (refine Hp.st H 0 rfl rfl rfl rfl rfl ?_; intro h H) | (refine Hp.st H 1 rfl rfl rfl rfl rfl ?_; intro h H) | (refine Hp.st H 2 rfl rfl rfl rfl rfl ?_; intro h H) | (refine Hp.st H 3 rfl rfl rfl rfl rfl ?_; intro h H) | (refine Hp.st H 4 rfl rfl rfl rfl rfl ?_; intro h H) | (refine Hp.st H 5 rfl rfl rfl rfl rfl ?_; intro h H) | (intro b h N; replace H := Hp.new H N; clear N) | refine Drawn.mk (by kernel_rfl) ?_ | refine FillK.row rfl ?_ | refine FillK.lit rfl ?_ | refine WrapK.i64 (by omega) (by omega) ?_ | refine WrapK.u64 (by omega) (by omega) ?_ | refine WrapK.u32 (by omega) (by omega) ?_ | refine WrapK.u8 (by omega) (by omega) ?_ | refine iteT (by omega) ?_ | refine iteF (by omega) ?_ | refine iteET (by omega) ?_ | refine iteEF (by omega) ?_ | refine iteNT (by omega) ?_ | refine iteNF (by omega) ?_); conv => whnf)
    exact ⟨1, V, B, .inl ⟨.inr a2, rfl, rfl, rfl⟩, rfl, H.drop 0⟩
  conv => whnf
  repeat ((first | refine cnd_intro (by first | (simp; done) | (simp; omega) | omega | (simp only [Bool.and_eq_true, decide_eq_true_eq]; omega)) ?_ | refine Hp.ld H 0 rfl rfl ?_ | refine Hp.ld H 1 rfl rfl ?_ | refine Hp.ld H 2 rfl rfl ?_ | refine Hp.ld H 3 rfl rfl ?_ | refine Hp.ld H 4 rfl rfl ?_ | refine Hp.ld H 5 rfl rfl ?_ | (refine Hp.st H 0 rfl rfl rfl rfl rfl ?_; intro h H) | (refine Hp.st H 1 rfl rfl rfl rfl rfl ?_; intro h H) | (refine Hp.st H 2 rfl rfl rfl rfl rfl ?_; intro h H) | (refine Hp.st H 3 rfl rfl rfl rfl rfl ?_; intro h H) | (refine Hp.st H 4 rfl rfl rfl rfl rfl ?_; intro h H) | (refine Hp.st H 5 rfl rfl rfl rfl rfl ?_; intro h H) | (intro b h N; replace H := Hp.new H N; clear N) | refine Drawn.mk (by kernel_rfl) ?_ | refine FillK.row rfl ?_ | refine FillK.lit rfl ?_ | refine WrapK.i64 (by omega) (by omega) ?_ | refine WrapK.u64 (by omega) (by omega) ?_ | refine WrapK.u32 (by omega) (by omega) ?_ | refine WrapK.u8 (by omega) (by omega) ?_ | refine iteT (by omega) ?_ | refine iteF (by omega) ?_ | refine iteET (by omega) ?_ | refine iteEF (by omega) ?_ | refine iteNT (by omega) ?_ | refine iteNF (by omega) ?_); conv => whnf)
  refine CallK.mono (gcheck_call _ l _ (hs.keep kk) (by omega)) ?_
  rintro _ h2 ⟨kq, rfl⟩
  replace H := H.and kq
  replace kk := kk.and kq
  by_cases a3 : l.check = 0
  case neg =>
    conv => whnf
    repeat ((first | refine cnd_intro (by first | (simp; done) | (simp; omega) | omega | (simp only [Bool.and_eq_true, decide_eq_true_eq]; omega)) ?_ | refine Hp.ld H 0 rfl rfl ?_ | refine Hp.ld H 1 rfl rfl ?_ | refine Hp.ld H 2 rfl rfl ?_ | refine Hp.ld H 3 rfl rfl ?_ | refine Hp.ld H 4 rfl rfl ?_ | refine Hp.ld H 5 rfl rfl ?_ | (refine Hp.st H 0 rfl rfl rfl rfl rfl ?_; intro h H) | (refine Hp.st H 1 rfl rfl rfl rfl rfl ?_; intro h H) | (refine Hp.st H 2 rfl rfl rfl rfl rfl ?_; intro h H) | (refine Hp.st H 3 rfl rfl rfl rfl rfl ?_; intro h H) | (refine Hp.st H 4 rfl rfl rfl rfl rfl ?_; intro h H) | (refine Hp.st H 5 rfl rfl rfl rfl rfl ?_; intro h H) | (intro b h N; replace H := Hp.new H N; clear N) | refine Drawn.mk (by kernel_rfl) ?_ | refine FillK.row rfl ?_ | refine FillK.lit rfl ?_ | refine WrapK.i64 (by omega) (by omega) ?_ | refine WrapK.u64 (by omega) (by omega) ?_ | refine WrapK.u32 (by omega) (by omega) ?_ | refine WrapK.u8 (by omega) (by omega) ?_ | refine iteT (by omega) ?_ | refine iteF (by omega) ?_ | refine iteET (by omega) ?_ | refine iteEF (by omega) ?_ | refine iteNT (by omega) ?_ | refine iteNF (by omega) ?_); conv => whnf)
    exact ⟨l.check, V, B, .inr (.inl ⟨by omega, by omega, a3, rfl, rfl, rfl⟩), rfl, H.drop 0⟩
  by_cases a4 : cs.length = l.es.length
  case neg =>
    conv => whnf
    repeat ((first | refine cnd_intro (by first | (simp; done) | (simp; omega) | omega | (simp only [Bool.and_eq_true, decide_eq_true_eq]; omega)) ?_ | refine Hp.ld H 0 rfl rfl ?_ | refine Hp.ld H 1 rfl rfl ?_ | refine Hp.ld H 2 rfl rfl ?_ | refine Hp.ld H 3 rfl rfl ?_ | refine Hp.ld H 4 rfl rfl ?_ | refine Hp.ld H 5 rfl rfl ?_ | (refine Hp.st H 0 rfl rfl rfl rfl rfl ?_; intro h H) | (refine Hp.st H 1 rfl rfl rfl rfl rfl ?_; intro h H) | (refine Hp.st H 2 rfl rfl rfl rfl rfl ?_; intro h H) | (refine Hp.st H 3 rfl rfl rfl rfl rfl ?_; intro h H) | (refine Hp.st H 4 rfl rfl rfl rfl rfl ?_; intro h H) | (refine Hp.st H 5 rfl rfl rfl rfl rfl ?_; intro h H) | (intro b h N; replace H := Hp.new H N; clear N) | refine Drawn.mk (by kernel_rfl) ?_ | refine FillK.row rfl ?_ | refine FillK.lit rfl ?_ | refine WrapK.i64 (by omega) (by omega) ?_ | refine WrapK.u64 (by omega) (by omega) ?_ | refine WrapK.u32 (by omega) (by omega) ?_ | refine WrapK.u8 (by omega) (by omega) ?_ | refine iteT (by omega) ?_ | refine iteF (by omega) ?_ | refine iteET (by omega) ?_ | refine iteEF (by omega) ?_ | refine iteNT (by omega) ?_ | refine iteNF (by omega) ?_); conv => whnf)
    exact ⟨30, V, B, .inr (.inr (.inl ⟨by omega, by omega, a3, .inl a4, rfl, rfl, rfl⟩)), rfl, H.drop 0⟩
  conv => whnf
  repeat ((first | refine cnd_intro (by first | (simp; done) | (simp; omega) | omega | (simp only [Bool.and_eq_true, decide_eq_true_eq]; omega)) ?_ | refine Hp.ld H 0 rfl rfl ?_ | refine Hp.ld H 1 rfl rfl ?_ | refine Hp.ld H 2 rfl rfl ?_ | refine Hp.ld H 3 rfl rfl ?_ | refine Hp.ld H 4 rfl rfl ?_ | refine Hp.ld H 5 rfl rfl ?_ | (refine Hp.st H 0 rfl rfl rfl rfl rfl ?_; intro h H) | (refine Hp.st H 1 rfl rfl rfl rfl rfl ?_; intro h H) | (refine Hp.st H 2 rfl rfl rfl rfl rfl ?_; intro h H) | (refine Hp.st H 3 rfl rfl rfl rfl rfl ?_; intro h H) | (refine Hp.st H 4 rfl rfl rfl rfl rfl ?_; intro h H) | (refine Hp.st H 5 rfl rfl rfl rfl rfl ?_; intro h H) | (intro b h N; replace H := Hp.new H N; clear N) | refine Drawn.mk (by kernel_rfl) ?_ | refine FillK.row rfl ?_ | refine FillK.lit rfl ?_ | refine WrapK.i64 (by omega) (by omega) ?_ | refine WrapK.u64 (by omega) (by omega) ?_ | refine WrapK.u32 (by omega) (by omega) ?_ | refine WrapK.u8 (by omega) (by omega) ?_ | refine iteT (by omega) ?_ | refine iteF (by omega) ?_ | refine iteET (by omega) ?_ | refine iteEF (by omega) ?_ | refine iteNT (by omega) ?_ | refine iteNF (by omega) ?_); conv => whnf)
  refine CallK.mono (icontainsf_call _ _ cs (hc.keep kk) (by omega)) ?_
  rintro _ h3 ⟨k3', rfl⟩
  replace H := H.and k3'
  replace kk := kk.and k3'
  have hX : cs.any cbad = true ∨ cs.any cbad = false := by cases cs.any cbad <;> simp
  rcases hX with a5 | a5
  · rw [a5]
    conv => whnf
    repeat ((first | refine cnd_intro (by first | (simp; done) | (simp; omega) | omega | (simp only [Bool.and_eq_true, decide_eq_true_eq]; omega)) ?_ | refine Hp.ld H 0 rfl rfl ?_ | refine Hp.ld H 1 rfl rfl ?_ | refine Hp.ld H 2 rfl rfl ?_ | refine Hp.ld H 3 rfl rfl ?_ | refine Hp.ld H 4 rfl rfl ?_ | refine Hp.ld H 5 rfl rfl ?_ | (refine Hp.st H 0 rfl rfl rfl rfl rfl ?_; intro h H) | (refine Hp.st H 1 rfl rfl rfl rfl rfl ?_; intro h H) | (refine Hp.st H 2 rfl rfl rfl rfl rfl ?_; intro h H) | (refine Hp.st H 3 rfl rfl rfl rfl rfl ?_; intro h H) | (refine Hp.st H 4 rfl rfl rfl rfl rfl ?_; intro h H) | (refine Hp.st H 5 rfl rfl rfl rfl rfl ?_; intro h H) | (intro b h N; replace H := Hp.new H N; clear N) | refine Drawn.mk (by kernel_rfl) ?_ | refine FillK.row rfl ?_ | refine FillK.lit rfl ?_ | refine WrapK.i64 (by omega) (by omega) ?_ | refine WrapK.u64 (by omega) (by omega) ?_ | refine WrapK.u32 (by omega) (by omega) ?_ | refine WrapK.u8 (by omega) (by omega) ?_ | refine iteT (by omega) ?_ | refine iteF (by omega) ?_ | refine iteET (by omega) ?_ | refine iteEF (by omega) ?_ | refine iteNT (by omega) ?_ | refine iteNF (by omega) ?_); conv => whnf)
    exact ⟨30, V, B, .inr (.inr (.inl ⟨by omega, by omega, a3, .inr a5, rfl, rfl, rfl⟩)), rfl, H.drop 0⟩
  rw [a5]
  conv => whnf
  repeat ((first | refine cnd_intro (by first | (simp; done) | (simp; omega) | omega | (simp only [Bool.and_eq_true, decide_eq_true_eq]; omega)) ?_ | refine Hp.ld H 0 rfl rfl ?_ | refine Hp.ld H 1 rfl rfl ?_ | refine Hp.ld H 2 rfl rfl ?_ | refine Hp.ld H 3 rfl rfl ?_ | refine Hp.ld H 4 rfl rfl ?_ | refine Hp.ld H 5 rfl rfl ?_ | (refine Hp.st H 0 rfl rfl rfl rfl rfl ?_; intro h H) | (refine Hp.st H 1 rfl rfl rfl rfl rfl ?_; intro h H) | (refine Hp.st H 2 rfl rfl rfl rfl rfl ?_; intro h H) | (refine Hp.st H 3 rfl rfl rfl rfl rfl ?_; intro h H) | (refine Hp.st H 4 rfl rfl rfl rfl rfl ?_; intro h H) | (refine Hp.st H 5 rfl rfl rfl rfl rfl ?_; intro h H) | (intro b h N; replace H := Hp.new H N; clear N) | refine FillK.row rfl ?_ | refine FillK.lit rfl ?_ | refine WrapK.i64 (by omega) (by omega) ?_ | refine WrapK.u64 (by omega) (by omega) ?_ | refine WrapK.u32 (by omega) (by omega) ?_ | refine WrapK.u8 (by omega) (by omega) ?_ | refine iteT (by omega) ?_ | refine iteF (by omega) ?_ | refine iteET (by omega) ?_ | refine iteEF (by omega) ?_ | refine iteNT (by omega) ?_ | refine iteNF (by omega) ?_); conv => whnf)
  refine Drawn.ord [0, 1, 2, 3, 4, 5, 7, 6, 8, 9, 10] (by kernel_rfl) ?_
  conv => whnf
  repeat ((first | refine cnd_intro (by first | (simp; done) | (simp; omega) | omega | (simp only [Bool.and_eq_true, decide_eq_true_eq]; omega)) ?_ | refine Hp.ld H 0 rfl rfl ?_ | refine Hp.ld H 1 rfl rfl ?_ | refine Hp.ld H 2 rfl rfl ?_ | refine Hp.ld H 3 rfl rfl ?_ | refine Hp.ld H 4 rfl rfl ?_ | refine Hp.ld H 5 rfl rfl ?_ | (refine Hp.st H 0 rfl rfl rfl rfl rfl ?_; intro h H) | (refine Hp.st H 1 rfl rfl rfl rfl rfl ?_; intro h H) | (refine Hp.st H 2 rfl rfl rfl rfl rfl ?_; intro h H) | (refine Hp.st H 3 rfl rfl rfl rfl rfl ?_; intro h H) | (refine Hp.st H 4 rfl rfl rfl rfl rfl ?_; intro h H) | (refine Hp.st H 5 rfl rfl rfl rfl rfl ?_; intro h H) | (intro b h N; replace H := Hp.new H N; clear N) | refine Drawn.mk (by kernel_rfl) ?_ | refine FillK.row rfl ?_ | refine FillK.lit rfl ?_ | refine WrapK.i64 (by omega) (by omega) ?_ | refine WrapK.u64 (by omega) (by omega) ?_ | refine WrapK.u32 (by omega) (by omega) ?_ | refine WrapK.u8 (by omega) (by omega) ?_ | refine iteT (by omega) ?_ | refine iteF (by omega) ?_ | refine iteET (by omega) ?_ | refine iteEF (by omega) ?_ | refine iteNT (by omega) ?_ | refine iteNF (by omega) ?_); conv => whnf)
  refine LdK.lit (pol_ob (i := 1) H rfl) rfl ?_
  conv => whnf
  repeat ((first | refine cnd_intro (by first | (simp; done) | (simp; omega) | omega | (simp only [Bool.and_eq_true, decide_eq_true_eq]; omega)) ?_ | refine Hp.ld H 0 rfl rfl ?_ | refine Hp.ld H 1 rfl rfl ?_ | refine Hp.ld H 2 rfl rfl ?_ | refine Hp.ld H 3 rfl rfl ?_ | refine Hp.ld H 4 rfl rfl ?_ | refine Hp.ld H 5 rfl rfl ?_ | (refine Hp.st H 0 rfl rfl rfl rfl rfl ?_; intro h H) | (refine Hp.st H 1 rfl rfl rfl rfl rfl ?_; intro h H) | (refine Hp.st H 2 rfl rfl rfl rfl rfl ?_; intro h H) | (refine Hp.st H 3 rfl rfl rfl rfl rfl ?_; intro h H) | (refine Hp.st H 4 rfl rfl rfl rfl rfl ?_; intro h H) | (refine Hp.st H 5 rfl rfl rfl rfl rfl ?_; intro h H) | (intro b h N; replace H := Hp.new H N; clear N) | refine Drawn.mk (by kernel_rfl) ?_ | refine FillK.row rfl ?_ | refine FillK.lit rfl ?_ | refine WrapK.i64 (by omega) (by omega) ?_ | refine WrapK.u64 (by omega) (by omega) ?_ | refine WrapK.u32 (by omega) (by omega) ?_ | refine WrapK.u8 (by omega) (by omega) ?_ | refine iteT (by omega) ?_ | refine iteF (by omega) ?_ | refine iteET (by omega) ?_ | refine iteEF (by omega) ?_ | refine iteNT (by omega) ?_ | refine iteNF (by omega) ?_); conv => whnf)
  refine CallK.mono (gclone_call _ l _ (hs.keep kk) hl) ?_
  rintro _ h4 ⟨k4, s4, rfl, o4⟩
  have hX := own_shape o4
  obtain ⟨A4, c4, rfl⟩ := hX
  refine ⟨k4, ?_⟩
  replace H := H.made o4 k4
  replace kk := kk.and k4
  conv => whnf
  repeat ((first | refine cnd_intro (by first | (simp; done) | (simp; omega) | omega | (simp only [Bool.and_eq_true, decide_eq_true_eq]; omega)) ?_ | refine Hp.ld H 0 rfl rfl ?_ | refine Hp.ld H 1 rfl rfl ?_ | refine Hp.ld H 2 rfl rfl ?_ | refine Hp.ld H 3 rfl rfl ?_ | refine Hp.ld H 4 rfl rfl ?_ | refine Hp.ld H 5 rfl rfl ?_ | (refine Hp.st H 0 rfl rfl rfl rfl rfl ?_; intro h H) | (refine Hp.st H 1 rfl rfl rfl rfl rfl ?_; intro h H) | (refine Hp.st H 2 rfl rfl rfl rfl rfl ?_; intro h H) | (refine Hp.st H 3 rfl rfl rfl rfl rfl ?_; intro h H) | (refine Hp.st H 4 rfl rfl rfl rfl rfl ?_; intro h H) | (refine Hp.st H 5 rfl rfl rfl rfl rfl ?_; intro h H) | (intro b h N; replace H := Hp.new H N; clear N) | refine Drawn.mk (by kernel_rfl) ?_ | refine FillK.row rfl ?_ | refine FillK.lit rfl ?_ | refine WrapK.i64 (by omega) (by omega) ?_ | refine WrapK.u64 (by omega) (by omega) ?_ | refine WrapK.u32 (by omega) (by omega) ?_ | refine WrapK.u8 (by omega) (by omega) ?_ | refine iteT (by omega) ?_ | refine iteF (by omega) ?_ | refine iteET (by omega) ?_ | refine iteEF (by omega) ?_ | refine iteNT (by omega) ?_ | refine iteNF (by omega) ?_); conv => whnf)
  refine CallK.mono (iclone_call _ _ cs (hc.keep kk) hcl) ?_
  rintro s5 h5 ⟨k5, o5⟩
  have hX := own_shape o5
  obtain ⟨A5, c5, rfl⟩ := hX
  refine ⟨k5, ?_⟩
  have hX := (RowsV.of_own (f := cI) (D := h4.size) o5 (fun _ => rfl) (by decide)).some (by have := (Gl.check_ok a3).n1; omega)
  obtain ⟨b5, o5', rfl⟩ := hX
  replace H := H.made o5 k5
  conv => whnf
  repeat ((first | refine cnd_intro (by first | (simp; done) | (simp; omega) | omega | (simp only [Bool.and_eq_true, decide_eq_true_eq]; omega)) ?_ | refine Hp.ld H 0 rfl rfl ?_ | refine Hp.ld H 1 rfl rfl ?_ | refine Hp.ld H 2 rfl rfl ?_ | refine Hp.ld H 3 rfl rfl ?_ | refine Hp.ld H 4 rfl rfl ?_ | refine Hp.ld H 5 rfl rfl ?_ | (refine Hp.st H 0 rfl rfl rfl rfl rfl ?_; intro h H) | (refine Hp.st H 1 rfl rfl rfl rfl rfl ?_; intro h H) | (refine Hp.st H 2 rfl rfl rfl rfl rfl ?_; intro h H) | (refine Hp.st H 3 rfl rfl rfl rfl rfl ?_; intro h H) | (refine Hp.st H 4 rfl rfl rfl rfl rfl ?_; intro h H) | (refine Hp.st H 5 rfl rfl rfl rfl rfl ?_; intro h H) | (intro b h N; replace H := Hp.new H N; clear N) | refine Drawn.mk (by kernel_rfl) ?_ | refine FillK.row rfl ?_ | refine FillK.lit rfl ?_ | refine WrapK.i64 (by omega) (by omega) ?_ | refine WrapK.u64 (by omega) (by omega) ?_ | refine WrapK.u32 (by omega) (by omega) ?_ | refine WrapK.u8 (by omega) (by omega) ?_ | refine iteT (by omega) ?_ | refine iteF (by omega) ?_ | refine iteET (by omega) ?_ | refine iteEF (by omega) ?_ | refine iteNT (by omega) ?_ | refine iteNF (by omega) ?_); conv => whnf)
  refine Hp.mapPut (EA_ok _) H 5 rfl (pkey_okA _) (k := n) (a := ⟨l, .slice A4 l.es.length c4, cs, .slice (some ⟨b5, o5', none⟩) cs.length c5⟩) rfl rfl rfl rfl rfl ?_
  clear H
  intro h6 H
  conv => whnf
  repeat ((first | refine cnd_intro (by first | (simp; done) | (simp; omega) | omega | (simp only [Bool.and_eq_true, decide_eq_true_eq]; omega)) ?_ | refine Hp.ld H 0 rfl rfl ?_ | refine Hp.ld H 1 rfl rfl ?_ | refine Hp.ld H 2 rfl rfl ?_ | refine Hp.ld H 3 rfl rfl ?_ | refine Hp.ld H 4 rfl rfl ?_ | refine Hp.ld H 5 rfl rfl ?_ | (refine Hp.st H 0 rfl rfl rfl rfl rfl ?_; intro h H) | (refine Hp.st H 1 rfl rfl rfl rfl rfl ?_; intro h H) | (refine Hp.st H 2 rfl rfl rfl rfl rfl ?_; intro h H) | (refine Hp.st H 3 rfl rfl rfl rfl rfl ?_; intro h H) | (refine Hp.st H 4 rfl rfl rfl rfl rfl ?_; intro h H) | (refine Hp.st H 5 rfl rfl rfl rfl rfl ?_; intro h H) | (intro b h N; replace H := Hp.new H N; clear N) | refine Drawn.mk (by kernel_rfl) ?_ | refine FillK.row rfl ?_ | refine FillK.lit rfl ?_ | refine WrapK.i64 (by omega) (by omega) ?_ | refine WrapK.u64 (by omega) (by omega) ?_ | refine WrapK.u32 (by omega) (by omega) ?_ | refine WrapK.u8 (by omega) (by omega) ?_ | refine iteT (by omega) ?_ | refine iteF (by omega) ?_ | refine iteET (by omega) ?_ | refine iteEF (by omega) ?_ | refine iteNT (by omega) ?_ | refine iteNF (by omega) ?_); conv => whnf)
  refine ⟨0, _, _, .inr (.inr (.inr ⟨by omega, by omega, a3, a4, a5, rfl, ⟨l, .slice A4 l.es.length c4, cs, .slice (some ⟨b5, o5', none⟩) cs.length c5⟩, rfl, rfl, ⟨_, _, _, _, rfl⟩, rfl, rfl⟩)), rfl, ?_⟩
  have H2 := H.drop 2
  have H3 : Hp h0 h6 ([Res.own (.slice (some ⟨b5, o5', none⟩) cs.length c5) 3 1 cs.length (cs.flatMap cI), Res.own (.slice A4 l.es.length c4) 81 2 l.es.length (l.es.flatMap Ent.cells), Res.bag B] ++ (Res.pol g s fs bR bV bM k0 k1 k2 k3 :: Res.mp pI Rul.enc bR R :: Res.mp pI Vlv.enc bV (mput n ⟨l, .slice A4 l.es.length c4, cs, .slice (some ⟨b5, o5', none⟩) cs.length c5⟩ V) :: Res.mp pI ptrV bM M :: rs)) :=
    H2.sub ⟨[], by
      rw [List.append_nil]
      exact List.Perm.cons _ (List.Perm.cons _ (List.perm_middle (l₁ := [_, _, _, _])).symm)⟩
  have H4 := Hp.bag_take H3
  exact H4.sub ⟨[], by
    rw [List.append_nil]
    exact List.perm_middle (l₁ := [_, _, _, _])⟩

end Go.Proofs.Ytloghahkelogbaa
