import Derived.Test.YtcjilkemfmhkgaaRelayP
namespace Go.Proofs.Ytcjilkemfmhkgaa
open Go.Vc
set_option maxRecDepth 10000
set_option maxHeartbeats 4000000

/-! ### relay: the head of the laws -/

theorem nth_get {α : Type} : ∀ (l : List α) (i : Nat), nth l i = l[i]?
  | [], _ => by simp [nth]
  | x :: r, 0 => by simp [nth]
  | x :: r, i + 1 => by simp only [nth]; rw [nth_get r i]; simp

theorem Hp.order {h0 h : Heap} {rs : List Res} (H : Hp h0 h rs) (n : Nat) (p : List Nat) (hp : p.Perm (List.range n)) (hl : rs.length = n) : Hp h0 h (p.map fun i => (nth rs i).getD Res.emp) := by
  refine H.sub ⟨[], ?_⟩
  rw [List.append_nil]
  subst hl
  have e : (List.range rs.length).map (fun n => (nth rs n).getD Res.emp) = rs := by
    apply List.ext_getElem?
    intro i
    by_cases hi : i < rs.length
    · rw [List.getElem?_map, List.getElem?_range hi, Option.map_some, nth_get, List.getElem?_eq_getElem hi]
      rfl
    · rw [List.getElem?_eq_none (by simpa using hi), List.getElem?_eq_none (by omega)]
  have := hp.map fun n => (nth rs n).getD Res.emp
  rwa [e] at this

/-- A frame's head that bears but its addresses. -/
def hd2 (d s : Mac6) : Hdr := ⟨d, s, false, 0, false, 0, 0, false⟩

theorem ways_call (h0 : Heap) : CallK Try.prog 6 #[] h0 fun v h' => Keep (fun _ => False) h0 h' ∧ v = .bool true := by
  refine CallK.of_vc EW_ok [0, 1, 2, 3, 4, 5, 6, 16] (args := []) Try.func6 rfl (Nat.le_of_ble_eq_true rfl) ?_
  have H := Hp.start h0
  conv => whnf
  refine FillK.row rfl ?_
  conv => whnf
  intro bs h1 N
  replace H := H.new N
  clear N
  conv => whnf
  refine CallK.mono (bridge_call (sts := [2, 2, 2]) (H.whole 0 rfl rfl)) ?_
  rintro _ h2 ⟨g, gF, s0, s1, s2, s3, rfl, H2⟩
  repeat clear H
  have H : Hp h0 h2 [Res.vt g s0 s1 s2 s3 [p1, p1, p1] [⟨1, 7, 7⟩], Res.ft gF (.slice none 0 0) [] 10 1000 0, Res.own (.slice (some ⟨bs, 0, none⟩) 3 3) 3 1 3 (([2, 2, 2] : List Int).flatMap rI)] := H2
  clear H2
  conv => whnf
  repeat ((first | refine cnd_intro (by first | (simp; done) | (simp; omega) | omega | (simp only [Bool.and_eq_true, decide_eq_true_eq]; omega)) ?_ | refine Hp.ld H 0 rfl rfl ?_ | refine Hp.ld H 1 rfl rfl ?_ | refine Hp.ld H 2 rfl rfl ?_ | refine Hp.ld H 3 rfl rfl ?_ | refine Hp.ld H 4 rfl rfl ?_ | refine Hp.ld H 5 rfl rfl ?_ | (refine Hp.st H 0 rfl rfl rfl rfl rfl ?_; intro h H) | (refine Hp.st H 1 rfl rfl rfl rfl rfl ?_; intro h H) | (refine Hp.st H 2 rfl rfl rfl rfl rfl ?_; intro h H) | (refine Hp.st H 3 rfl rfl rfl rfl rfl ?_; intro h H) | (refine Hp.st H 4 rfl rfl rfl rfl rfl ?_; intro h H) | (refine Hp.st H 5 rfl rfl rfl rfl rfl ?_; intro h H) | (intro b h N; replace H := Hp.new H N; clear N) | refine Drawn.mk (by kernel_rfl) ?_ | refine FillK.row rfl ?_ | refine FillK.lit rfl ?_ | refine WrapK.i64 (by omega) (by omega) ?_ | refine WrapK.u64 (by omega) (by omega) ?_ | refine WrapK.u32 (by omega) (by omega) ?_ | refine WrapK.u8 (by omega) (by omega) ?_ | refine iteT (by omega) ?_ | refine iteF (by omega) ?_ | refine iteET (by omega) ?_ | refine iteEF (by omega) ?_ | refine iteNT (by omega) ?_ | refine iteNF (by omega) ?_); conv => whnf)
  refine EqK.ptr_nil EW_ok rfl rfl ?_
  conv => whnf
  repeat ((first | refine cnd_intro (by first | (simp; done) | (simp; omega) | omega | (simp only [Bool.and_eq_true, decide_eq_true_eq]; omega)) ?_ | refine Hp.ld H 0 rfl rfl ?_ | refine Hp.ld H 1 rfl rfl ?_ | refine Hp.ld H 2 rfl rfl ?_ | refine Hp.ld H 3 rfl rfl ?_ | refine Hp.ld H 4 rfl rfl ?_ | refine Hp.ld H 5 rfl rfl ?_ | (refine Hp.st H 0 rfl rfl rfl rfl rfl ?_; intro h H) | (refine Hp.st H 1 rfl rfl rfl rfl rfl ?_; intro h H) | (refine Hp.st H 2 rfl rfl rfl rfl rfl ?_; intro h H) | (refine Hp.st H 3 rfl rfl rfl rfl rfl ?_; intro h H) | (refine Hp.st H 4 rfl rfl rfl rfl rfl ?_; intro h H) | (refine Hp.st H 5 rfl rfl rfl rfl rfl ?_; intro h H) | (intro b h N; replace H := Hp.new H N; clear N) | refine Drawn.mk (by kernel_rfl) ?_ | refine FillK.row rfl ?_ | refine FillK.lit rfl ?_ | refine WrapK.i64 (by omega) (by omega) ?_ | refine WrapK.u64 (by omega) (by omega) ?_ | refine WrapK.u32 (by omega) (by omega) ?_ | refine WrapK.u8 (by omega) (by omega) ?_ | refine iteT (by omega) ?_ | refine iteF (by omega) ?_ | refine iteET (by omega) ?_ | refine iteEF (by omega) ?_ | refine iteNT (by omega) ?_ | refine iteNF (by omega) ?_); conv => whnf)
  refine EqK.ptr_nil EW_ok rfl rfl ?_
  conv => whnf
  refine FillK.lit rfl ?_
  conv => whnf
  refine FillK.lit rfl ?_
  conv => whnf
  intro b2 h3 N
  replace H := H.new N
  clear N
  conv => whnf
  intro b3 h4 N
  replace H := H.new N
  clear N
  conv => whnf
  repeat ((first | refine cnd_intro (by first | (simp; done) | (simp; omega) | omega | (simp only [Bool.and_eq_true, decide_eq_true_eq]; omega)) ?_ | refine Hp.ld H 0 rfl rfl ?_ | refine Hp.ld H 1 rfl rfl ?_ | refine Hp.ld H 2 rfl rfl ?_ | refine Hp.ld H 3 rfl rfl ?_ | refine Hp.ld H 4 rfl rfl ?_ | refine Hp.ld H 5 rfl rfl ?_ | (refine Hp.st H 0 rfl rfl rfl rfl rfl ?_; intro h H) | (refine Hp.st H 1 rfl rfl rfl rfl rfl ?_; intro h H) | (refine Hp.st H 2 rfl rfl rfl rfl rfl ?_; intro h H) | (refine Hp.st H 3 rfl rfl rfl rfl rfl ?_; intro h H) | (refine Hp.st H 4 rfl rfl rfl rfl rfl ?_; intro h H) | (refine Hp.st H 5 rfl rfl rfl rfl rfl ?_; intro h H) | (intro b h N; replace H := Hp.new H N; clear N) | refine Drawn.mk (by kernel_rfl) ?_ | refine FillK.row rfl ?_ | refine FillK.lit rfl ?_ | refine WrapK.i64 (by omega) (by omega) ?_ | refine WrapK.u64 (by omega) (by omega) ?_ | refine WrapK.u32 (by omega) (by omega) ?_ | refine WrapK.u8 (by omega) (by omega) ?_ | refine iteT (by omega) ?_ | refine iteF (by omega) ?_ | refine iteET (by omega) ?_ | refine iteEF (by omega) ?_ | refine iteNT (by omega) ?_ | refine iteNF (by omega) ?_); conv => whnf)
  have HH : Hp h0 h [Res.ob b3 (.cells mb.cells.toArray 36 (0, 0)), Res.ob b2 (.cells ma.cells.toArray 36 (0, 0)), Res.ob b (.cells (brg g gF (.slice (some ⟨bs, 0, none⟩) 3 3)).toArray 31 (0, 0)), Res.vt g s0 s1 s2 s3 [p1, p1, p1] [⟨1, 7, 7⟩], Res.ft gF (.slice none 0 0) [] 10 1000 0, Res.own (.slice (some ⟨bs, 0, none⟩) 3 3) 3 1 3 (([2, 2, 2] : List Int).flatMap rI)] := H
  repeat clear H
  have H := Hp.order HH 6 [3, 4, 5, 0, 1, 2] (by decide) rfl
  clear HH
  have hsm : SmallT [⟨1, 7, 7⟩] := by
    intro x hx
    rcases List.mem_singleton.1 hx with rfl
    decide
  have hne : ma ≠ mb := by simp [ma, mb]
  have l1 := rl1 (x := ma) rfl 0
  have l2 := rl2 hne rfl 0 2 5 (by decide)
  have l3 := rl3 hne rfl 0 2 0 5 6 (by decide) (by decide) (by decide)
  have f1 : (findE' [⟨1, ma, 0, 0⟩] 1 mb 1000 0).2 ≠ 0 := by
    rw [rf1 hne 0 0]
    decide
  have f2 := rf2 (x := ma) (y := mb) 0 2 5 5 (by decide)
  have f3 := rf2 (x := ma) (y := mb) 0 0 6 6 (by decide)
  have g1 := rg1 ma 0
  have g2 : GoodE [⟨1, ma, 0, 0⟩, ⟨1, mb, 2, 5⟩] := rg2 hne 0 2 0 5 (by decide) (by decide) (by decide) (by decide)
  have g3 : GoodE [⟨1, ma, 0, 0⟩, ⟨1, mb, 0, 6⟩] := rg2 hne 0 0 0 6 (by decide) (by decide) (by decide) (by decide)
  refine CallK.mono (decide_flood (sts := [2, 2, 2]) (E1 := [⟨1, ma, 0, 0⟩]) (lost1 := 0) H 0 (hd2 mb ma) 0 1 0 (by decide) (by decide) hsm GoodE.nil g1 (by decide) (by decide) (by decide) rfl rfl rfl rfl (congrArg Prod.snd l1) f1 [1, 2] rfl (by decide)) ?_
  rintro _ h5 ⟨sw, s', rfl, H5⟩
  repeat clear H
  have H : Hp h0 h5 [Res.own sw 3 1 2 (([1, 2] : List Int).flatMap rI), Res.vt g s0 s1 s2 s3 [p1, p1, p1] [⟨1, 7, 7⟩], Res.ft gF s' [⟨1, ma, 0, 0⟩] 10 1000 0, Res.own (.slice (some ⟨bs, 0, none⟩) 3 3) 3 1 3 (([2, 2, 2] : List Int).flatMap rI), Res.ob b3 (.cells mb.cells.toArray 36 (0, 0)), Res.ob b2 (.cells ma.cells.toArray 36 (0, 0)), Res.ob b (.cells (brg g gF (.slice (some ⟨bs, 0, none⟩) 3 3)).toArray 31 (0, 0))] := H5
  clear H5
  obtain ⟨Aw, cw, rfl⟩ := own_shape (H.get 0 rfl)
  conv => whnf
  intro b4 h6 N
  replace H := H.new N
  clear N
  conv => whnf
  repeat ((first | refine Hp.ld H 5 rfl rfl ?_ | refine Hp.ld H 6 rfl rfl ?_ | refine Hp.ld H 7 rfl rfl ?_ | (refine Hp.st H 0 rfl rfl rfl rfl rfl ?_; intro h H) | refine iteT (by omega) ?_ | refine iteF (by omega) ?_ | refine iteET (by omega) ?_ | refine iteEF (by omega) ?_ | refine iteNT (by omega) ?_ | refine iteNF (by omega) ?_ | refine WrapK.i64 (by omega) (by omega) ?_ | refine Drawn.mk (by kernel_rfl) ?_); conv => whnf)
  refine FillK.lit rfl ?_
  conv => whnf
  have HH : Hp h0 _ [Res.ob b4 (.cells (wayC 1 0 (.slice Aw 2 cw) 0).toArray 38 (0, 0)), Res.own (.slice Aw 2 cw) 3 1 2 (([1, 2] : List Int).flatMap rI), Res.vt g s0 s1 s2 s3 [p1, p1, p1] [⟨1, 7, 7⟩], Res.ft gF s' [⟨1, ma, 0, 0⟩] 10 1000 0, Res.own (.slice (some ⟨bs, 0, none⟩) 3 3) 3 1 3 (([2, 2, 2] : List Int).flatMap rI), Res.ob b3 (.cells mb.cells.toArray 36 (0, 0)), Res.ob b2 (.cells ma.cells.toArray 36 (0, 0)), Res.ob b (.cells (brg g gF (.slice (some ⟨bs, 0, none⟩) 3 3)).toArray 31 (0, 0))] := H
  repeat clear H
  have H := Hp.order HH 8 [2, 3, 4, 0, 1, 5, 6, 7] (by decide) rfl
  clear HH
  refine CallK.mono (decide_known (sts := [2, 2, 2]) (E1 := [⟨1, ma, 0, 0⟩, ⟨1, mb, 2, 5⟩]) (lost1 := 0) H 2 (hd2 ma mb) 5 1 0 (by decide) (by decide) hsm g1 g2 (by decide) (by decide) (by decide) rfl rfl rfl rfl (congrArg Prod.snd l2) 0 f2 (by decide) rfl) ?_
  rintro _ h7 ⟨sx, s5, rfl, H7⟩
  repeat clear H
  have H : Hp h0 h7 [Res.own sx 3 1 1 (rI 0), Res.vt g s0 s1 s2 s3 [p1, p1, p1] [⟨1, 7, 7⟩], Res.ft gF s5 [⟨1, ma, 0, 0⟩, ⟨1, mb, 2, 5⟩] 10 1000 0, Res.own (.slice (some ⟨bs, 0, none⟩) 3 3) 3 1 3 (([2, 2, 2] : List Int).flatMap rI), Res.ob b4 (.cells (wayC 1 0 (.slice Aw 2 cw) 0).toArray 38 (0, 0)), Res.own (.slice Aw 2 cw) 3 1 2 (([1, 2] : List Int).flatMap rI), Res.ob b3 (.cells mb.cells.toArray 36 (0, 0)), Res.ob b2 (.cells ma.cells.toArray 36 (0, 0)), Res.ob b (.cells (brg g gF (.slice (some ⟨bs, 0, none⟩) 3 3)).toArray 31 (0, 0))] := H7
  clear H7
  obtain ⟨Ax, cx, rfl⟩ := own_shape (H.get 0 rfl)
  conv => whnf
  intro b5 h8 N
  replace H := H.new N
  clear N
  conv => whnf
  repeat ((first | refine Hp.ld H 7 rfl rfl ?_ | refine Hp.ld H 8 rfl rfl ?_ | refine Hp.ld H 9 rfl rfl ?_ | (refine Hp.st H 0 rfl rfl rfl rfl rfl ?_; intro h H) | refine iteT (by omega) ?_ | refine iteF (by omega) ?_ | refine iteET (by omega) ?_ | refine iteEF (by omega) ?_ | refine iteNT (by omega) ?_ | refine iteNF (by omega) ?_ | refine WrapK.i64 (by omega) (by omega) ?_ | refine Drawn.mk (by kernel_rfl) ?_); conv => whnf)
  refine FillK.lit rfl ?_
  conv => whnf
  have HH : Hp h0 _ [Res.ob b5 (.cells (wayC 1 0 (.slice Ax 1 cx) 0).toArray 38 (0, 0)), Res.own (.slice Ax 1 cx) 3 1 1 (rI 0), Res.vt g s0 s1 s2 s3 [p1, p1, p1] [⟨1, 7, 7⟩], Res.ft gF s5 [⟨1, ma, 0, 0⟩, ⟨1, mb, 2, 5⟩] 10 1000 0, Res.own (.slice (some ⟨bs, 0, none⟩) 3 3) 3 1 3 (([2, 2, 2] : List Int).flatMap rI), Res.ob b4 (.cells (wayC 1 0 (.slice Aw 2 cw) 0).toArray 38 (0, 0)), Res.own (.slice Aw 2 cw) 3 1 2 (([1, 2] : List Int).flatMap rI), Res.ob b3 (.cells mb.cells.toArray 36 (0, 0)), Res.ob b2 (.cells ma.cells.toArray 36 (0, 0)), Res.ob b (.cells (brg g gF (.slice (some ⟨bs, 0, none⟩) 3 3)).toArray 31 (0, 0))] := H
  repeat clear H
  have H := Hp.order HH 10 [2, 3, 4, 0, 1, 5, 6, 7, 8, 9] (by decide) rfl
  clear HH
  refine CallK.mono (decide_local (sts := [2, 2, 2]) (E1 := [⟨1, ma, 0, 0⟩, ⟨1, mb, 0, 6⟩]) (lost1 := 0) H 0 (hd2 ma mb) 6 1 0 (by decide) (by decide) hsm g2 g3 (by decide) (by decide) (by decide) rfl rfl rfl rfl (congrArg Prod.snd l3) f3) ?_
  rintro _ h9 ⟨s6, rfl, H9⟩
  repeat clear H
  have H : Hp h0 h9 [Res.vt g s0 s1 s2 s3 [p1, p1, p1] [⟨1, 7, 7⟩], Res.ft gF s6 [⟨1, ma, 0, 0⟩, ⟨1, mb, 0, 6⟩] 10 1000 0, Res.own (.slice (some ⟨bs, 0, none⟩) 3 3) 3 1 3 (([2, 2, 2] : List Int).flatMap rI), Res.ob b5 (.cells (wayC 1 0 (.slice Ax 1 cx) 0).toArray 38 (0, 0)), Res.own (.slice Ax 1 cx) 3 1 1 (rI 0), Res.ob b4 (.cells (wayC 1 0 (.slice Aw 2 cw) 0).toArray 38 (0, 0)), Res.own (.slice Aw 2 cw) 3 1 2 (([1, 2] : List Int).flatMap rI), Res.ob b3 (.cells mb.cells.toArray 36 (0, 0)), Res.ob b2 (.cells ma.cells.toArray 36 (0, 0)), Res.ob b (.cells (brg g gF (.slice (some ⟨bs, 0, none⟩) 3 3)).toArray 31 (0, 0))] := H9
  clear H9
  have wv : IntsR h9 (.slice Aw 2 cw) [1, 2] := RowsV.of_own (H.get 6 rfl) (fun _ => rfl) (by decide)
  have xv : IntsR h9 (.slice Ax 1 cx) [0] := RowsV.of_own (H.get 4 rfl) (fun _ => rfl) (by decide)
  obtain ⟨wb, wo, rfl⟩ := wv.some (by decide)
  obtain ⟨xb, xo, rfl⟩ := xv.some (by decide)
  clear wv xv
  conv => whnf
  intro b6 h10 N
  replace H := H.new N
  clear N
  conv => whnf
  repeat ((first | refine Hp.ld H 4 rfl rfl ?_ | refine Hp.ld H 6 rfl rfl ?_ | (refine Hp.st H 0 rfl rfl rfl rfl rfl ?_; intro h H) | refine iteT (by omega) ?_ | refine iteF (by omega) ?_ | refine iteET (by omega) ?_ | refine iteEF (by omega) ?_ | refine iteNT (by omega) ?_ | refine iteNF (by omega) ?_ | refine WrapK.i64 (by omega) (by omega) ?_ | refine Drawn.mk (by kernel_rfl) ?_); conv => whnf)
  have wv : IntsR h (.slice (some ⟨wb, wo, none⟩) 2 cw) [1, 2] := RowsV.of_own (H.get 7 rfl) (fun _ => rfl) (by decide)
  have xv : IntsR h (.slice (some ⟨xb, xo, none⟩) 1 cx) [0] := RowsV.of_own (H.get 5 rfl) (fun _ => rfl) (by decide)
  refine rint_ld wv (i := 1) rfl rfl rfl rfl (by first | omega | (simp; done) | (simp; omega)) ?_
  conv => whnf
  repeat ((first | refine Hp.ld H 4 rfl rfl ?_ | refine Hp.ld H 6 rfl rfl ?_ | (refine Hp.st H 0 rfl rfl rfl rfl rfl ?_; intro h H) | refine iteT (by omega) ?_ | refine iteF (by omega) ?_ | refine iteET (by omega) ?_ | refine iteEF (by omega) ?_ | refine iteNT (by omega) ?_ | refine iteNF (by omega) ?_ | refine WrapK.i64 (by omega) (by omega) ?_ | refine Drawn.mk (by kernel_rfl) ?_); conv => whnf)
  refine rint_ld xv (i := 0) rfl rfl rfl rfl (by first | omega | (simp; done) | (simp; omega)) ?_
  conv => whnf
  repeat ((first | refine Hp.ld H 0 rfl rfl ?_ | refine Hp.ld H 4 rfl rfl ?_ | refine Hp.ld H 6 rfl rfl ?_ | refine iteT (by omega) ?_ | refine iteF (by omega) ?_ | refine iteET (by omega) ?_ | refine iteEF (by omega) ?_ | refine iteNT (by omega) ?_ | refine iteNF (by omega) ?_ | refine WrapK.i64 (by omega) (by omega) ?_ | refine Drawn.mk (by kernel_rfl) ?_); conv => whnf)
  refine CallK.mono (name_call _ 6) ?_
  rintro _ h11 ⟨k11, rfl⟩
  replace H := H.and k11
  conv => whnf
  refine StrK.same ?_
  conv => whnf
  refine CallK.mono (name_call _ 8) ?_
  rintro _ h12 ⟨k12, rfl⟩
  replace H := H.and k12
  conv => whnf
  refine StrK.same ?_
  conv => whnf
  repeat ((first | refine Hp.ld H 0 rfl rfl ?_ | refine iteT (by omega) ?_ | refine iteF (by omega) ?_ | refine iteET (by omega) ?_ | refine iteEF (by omega) ?_ | refine iteNT (by omega) ?_ | refine iteNF (by omega) ?_ | refine WrapK.i64 (by omega) (by omega) ?_ | refine Drawn.mk (by kernel_rfl) ?_); conv => whnf)
  exact ⟨H.keep, rfl⟩

end Go.Proofs.Ytcjilkemfmhkgaa
