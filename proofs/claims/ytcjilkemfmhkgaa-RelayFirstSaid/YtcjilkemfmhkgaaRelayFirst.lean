import Derived.Test.YtcjilkemfmhkgaaRelay6
namespace Go.Proofs.Ytcjilkemfmhkgaa
open Go.Vc
set_option maxRecDepth 10000
set_option maxHeartbeats 4000000

/-! ### relay: RelayFirst -/

def mx (u : UInt8) : Mac6 := ⟨2, u, 0, 0, 0, 0⟩
def T2 : List VRow := [⟨1, 15, 15⟩, ⟨2, 15, 0⟩]
def hdT (d s : Mac6) : Hdr := ⟨d, s, true, 0, false, 2, 0, false⟩

theorem arg_two {h : Heap} {v : Value} (a : Arg EE h 26 v) : ∃ x y : UInt8, v = .agg #[.int .u8 x.toNat, .int .u8 y.toNat] := by
  obtain ⟨cs, rfl⟩ := a.agg _ rfl rfl
  obtain ⟨hl, he⟩ : cs.toList.length = 2 ∧ ∀ i, i < 2 → Fm EE h 2 5 ((cs.toList.drop (i * 1)).take 1) := a.fm 3
  have g : ∀ i, i < 2 → ∃ x : UInt8, cs.toList[i]? = some (.int .u8 x.toNat) := by
    intro i hi
    obtain ⟨x, hx⟩ := fm_u8 (k := 1) (he i hi)
    rw [Nat.mul_one] at hx
    exact ⟨x, list_one hx⟩
  obtain ⟨x0, h0⟩ := g 0 (by decide)
  obtain ⟨x1, h1⟩ := g 1 (by decide)
  refine ⟨x0, x1, ?_⟩
  congr 1
  apply Array.toList_inj.1
  generalize cs.toList = l at *
  match l, hl, h0, h1 with
  | [c0, c1], _, h0, h1 =>
    simp only [List.getElem?_cons_zero, List.getElem?_cons_succ, Option.some.injEq] at h0 h1
    subst h0 h1
    rfl

theorem four {p : Int} (h1 : ¬ p < 0) (h2 : ¬ p > 3) : p = 0 ∨ p = 1 ∨ p = 2 ∨ p = 3 := by omega

theorem f_class {p : Int} (h1 : ¬ p < 0) (h2 : ¬ p > 3) (d s : Mac6) : classF [p1, p1, p1, p1] T2 p (hd2 d s).tagged (hd2 d s).pcp (hd2 d s).vid = (1, 0, 0) := by
  rcases four h1 h2 with rfl | rfl | rfl | rfl <;> rfl
theorem f_class2 {p : Int} (h1 : ¬ p < 0) (h2 : ¬ p > 3) (d s : Mac6) : classF [p1, p1, p1, p1] T2 p (hdT d s).tagged (hdT d s).pcp (hdT d s).vid = (2, 0, 0) := by
  rcases four h1 h2 with rfl | rfl | rfl | rfl <;> rfl
theorem f_state {p : Int} (h1 : ¬ p < 0) (h2 : ¬ p > 3) : stF [2, 2, 2, 2] p = 2 := by
  rcases four h1 h2 with rfl | rfl | rfl | rfl <;> rfl
theorem f_open {p : Int} (h1 : ¬ p < 0) (h2 : ¬ p > 3) : opnR T2 [2, 2, 2, 2] 1 p = true := by
  rcases four h1 h2 with rfl | rfl | rfl | rfl <;> rfl
theorem f_out {p v : Int} (h1 : ¬ p < 0) (h2 : ¬ p > 3) (hv : v = 1 ∨ v = 2) : ∃ L, outP T2 [2, 2, 2, 2] p v 4 = L ∧ L.length = 3 := by
  refine ⟨_, rfl, ?_⟩
  rcases hv with rfl | rfl <;> rcases four h1 h2 with rfl | rfl | rfl | rfl <;> rfl
theorem mx_ne {a b : UInt8} (h : ¬ (a.toNat : Int) = b.toNat) : mx a ≠ mx b := by
  intro e
  unfold mx at e
  injection e with _ e
  subst e
  exact h rfl
theorem ne_len {L : List Int} (h : L.length = 3) : L ≠ [] := by
  rintro rfl
  cases h

theorem good_T1 : GoodT [⟨1, 15, 15⟩] := ⟨by decide, by
  intro x hx
  rcases List.mem_singleton.1 hx with rfl
  decide, List.pairwise_singleton _ _⟩

theorem law_RelayFirst (v0 v1 v2 : Value) (h0 : Heap) (a0 : Arg EE h0 3 v0) (a1 : Arg EE h0 3 v1) (a2 : Arg EE h0 26 v2) :
    CallK Try.prog 4 #[v0, v1, v2] h0 fun v h' => v = .bool true ∧ Keep (fun _ => False) h0 h' := by
  obtain ⟨p, rfl, _, _⟩ := argi a0
  obtain ⟨q, rfl, _, _⟩ := argi a1
  obtain ⟨one, two, rfl⟩ := arg_two a2
  refine CallK.of_vc EW_ok [0, 1, 2, 5, 6, 7, 8, 9, 10, 11, 12, 13, 14, 15, 21, 45] Try.func4 rfl (Nat.le_of_ble_eq_true rfl) ?_
  have H := Hp.start h0
  conv => whnf
  repeat ((first | refine cnd_intro (by first | (simp; done) | (simp; omega) | omega | (simp only [Bool.and_eq_true, decide_eq_true_eq]; omega)) ?_ | refine Hp.ld H 0 rfl rfl ?_ | refine Hp.ld H 1 rfl rfl ?_ | refine Hp.ld H 2 rfl rfl ?_ | refine Hp.ld H 3 rfl rfl ?_ | refine Hp.ld H 4 rfl rfl ?_ | refine Hp.ld H 5 rfl rfl ?_ | (refine Hp.st H 0 rfl rfl rfl rfl rfl ?_; intro h H) | (refine Hp.st H 1 rfl rfl rfl rfl rfl ?_; intro h H) | (refine Hp.st H 2 rfl rfl rfl rfl rfl ?_; intro h H) | (refine Hp.st H 3 rfl rfl rfl rfl rfl ?_; intro h H) | (refine Hp.st H 4 rfl rfl rfl rfl rfl ?_; intro h H) | (refine Hp.st H 5 rfl rfl rfl rfl rfl ?_; intro h H) | (intro b h N; replace H := Hp.new H N; clear N) | refine Drawn.mk (by kernel_rfl) ?_ | refine FillK.row rfl ?_ | refine FillK.lit rfl ?_ | refine WrapK.i64 (by omega) (by omega) ?_ | refine WrapK.u64 (by omega) (by omega) ?_ | refine WrapK.u32 (by omega) (by omega) ?_ | refine WrapK.u8 (by omega) (by omega) ?_ | refine iteT (by omega) ?_ | refine iteF (by omega) ?_ | refine iteET (by omega) ?_ | refine iteEF (by omega) ?_ | refine iteNT (by omega) ?_ | refine iteNF (by omega) ?_); conv => whnf)
  refine CallK.mono (ways_call _) ?_
  rintro _ h1 ⟨k1, rfl⟩
  replace H := H.and k1
  clear k1
  by_cases c1 : p < 0
  · conv => whnf
    repeat (first | (refine iteT (by omega) ?_; conv => whnf) | (refine iteF (by omega) ?_; conv => whnf) | (refine iteET (by omega) ?_; conv => whnf) | (refine iteEF (by omega) ?_; conv => whnf) | (refine iteNT (by omega) ?_; conv => whnf) | (refine iteNF (by omega) ?_; conv => whnf) | (refine WrapK.i64 (by omega) (by omega) ?_; conv => whnf) | (refine Hp.ld H 0 rfl rfl ?_; conv => whnf))
    exact ⟨rfl, H.keep⟩
  by_cases c2 : p > 3
  · conv => whnf
    repeat (first | (refine iteT (by omega) ?_; conv => whnf) | (refine iteF (by omega) ?_; conv => whnf) | (refine iteET (by omega) ?_; conv => whnf) | (refine iteEF (by omega) ?_; conv => whnf) | (refine iteNT (by omega) ?_; conv => whnf) | (refine iteNF (by omega) ?_; conv => whnf) | (refine WrapK.i64 (by omega) (by omega) ?_; conv => whnf) | (refine Hp.ld H 0 rfl rfl ?_; conv => whnf))
    exact ⟨rfl, H.keep⟩
  by_cases c3 : q < 0
  · conv => whnf
    repeat (first | (refine iteT (by omega) ?_; conv => whnf) | (refine iteF (by omega) ?_; conv => whnf) | (refine iteET (by omega) ?_; conv => whnf) | (refine iteEF (by omega) ?_; conv => whnf) | (refine iteNT (by omega) ?_; conv => whnf) | (refine iteNF (by omega) ?_; conv => whnf) | (refine WrapK.i64 (by omega) (by omega) ?_; conv => whnf) | (refine Hp.ld H 0 rfl rfl ?_; conv => whnf))
    exact ⟨rfl, H.keep⟩
  by_cases c4 : q > 3
  · conv => whnf
    repeat (first | (refine iteT (by omega) ?_; conv => whnf) | (refine iteF (by omega) ?_; conv => whnf) | (refine iteET (by omega) ?_; conv => whnf) | (refine iteEF (by omega) ?_; conv => whnf) | (refine iteNT (by omega) ?_; conv => whnf) | (refine iteNF (by omega) ?_; conv => whnf) | (refine WrapK.i64 (by omega) (by omega) ?_; conv => whnf) | (refine Hp.ld H 0 rfl rfl ?_; conv => whnf))
    exact ⟨rfl, H.keep⟩
  by_cases c5 : p = q
  · conv => whnf
    repeat (first | (refine iteT (by omega) ?_; conv => whnf) | (refine iteF (by omega) ?_; conv => whnf) | (refine iteET (by omega) ?_; conv => whnf) | (refine iteEF (by omega) ?_; conv => whnf) | (refine iteNT (by omega) ?_; conv => whnf) | (refine iteNF (by omega) ?_; conv => whnf) | (refine WrapK.i64 (by omega) (by omega) ?_; conv => whnf) | (refine Hp.ld H 0 rfl rfl ?_; conv => whnf))
    exact ⟨rfl, H.keep⟩
  by_cases c6 : (one.toNat : Int) = two.toNat
  · conv => whnf
    repeat (first | (refine iteT (by omega) ?_; conv => whnf) | (refine iteF (by omega) ?_; conv => whnf) | (refine iteET (by omega) ?_; conv => whnf) | (refine iteEF (by omega) ?_; conv => whnf) | (refine iteNT (by omega) ?_; conv => whnf) | (refine iteNF (by omega) ?_; conv => whnf) | (refine WrapK.i64 (by omega) (by omega) ?_; conv => whnf) | (refine Hp.ld H 0 rfl rfl ?_; conv => whnf))
    exact ⟨rfl, H.keep⟩
  have hne := mx_ne c6
  have st : 0 < 4 := by decide
  have oy := f_open c3 c4
  have ox := f_open c1 c2
  have sx := f_state c1 c2
  have sy := f_state c3 c4
  obtain ⟨L1, hL1, hl1⟩ := f_out (v := 1) c1 c2 (.inl rfl)
  obtain ⟨L4, hL4, hl4⟩ := f_out (v := 2) c1 c2 (.inr rfl)
  have gx : (mx one).group = false := by simp [mx, Mac6.group]
  have gy : (mx two).group = false := by simp [mx, Mac6.group]
  have rx : (mx one).reserved = false := by simp [mx, Mac6.reserved]
  have ry : (mx two).reserved = false := by simp [mx, Mac6.reserved]
  have l1 := rl1 (x := mx one) gx p
  have l2 := rl2 hne gy p q 1 (by decide)
  have l3 := rl4 hne gx p q p 1 2 (by decide) (by decide) (by decide)
  have l4 := rl5 (x := mx one) (y := mx two) gx p q p
  have f1 : (findE' [⟨1, (mx one), p, 0⟩] 1 (mx two) 1000 0).2 ≠ 0 := by
    rw [rf1 hne p 0]
    decide
  have f2 := rf2 (x := mx one) (y := mx two) p q 1 1 (by decide)
  have f3 := rf3 (x := mx one) (y := mx two) p q
  have f4 : (findE' [⟨1, (mx two), q, 1⟩, ⟨1, (mx one), p, 2⟩, ⟨2, (mx one), p, 3⟩] 2 (mx two) 1000 3).2 ≠ 0 := by
    rw [rf5 hne p q p]
    decide
  have g1 := rg1 (mx one) p
  have g2 : GoodE [⟨1, (mx one), p, 0⟩, ⟨1, (mx two), q, 1⟩] := rg2 hne p q 0 1 (by decide) (by decide) (by decide) (by decide)
  have g3 : GoodE [⟨1, (mx two), q, 1⟩, ⟨1, (mx one), p, 2⟩] := rg2 hne.symm q p 1 2 (by decide) (by decide) (by decide) (by decide)
  have g4 := rg3 hne p q p
  have hsm : SmallT T2 := by
    intro x hx
    simp only [T2, List.mem_cons, List.mem_nil_iff, or_false] at hx
    rcases hx with rfl | rfl <;> decide
  replace H := H.drop 0
  conv => whnf
  repeat (first | (refine iteT (by omega) ?_; conv => whnf) | (refine iteF (by omega) ?_; conv => whnf) | (refine iteET (by omega) ?_; conv => whnf) | (refine iteEF (by omega) ?_; conv => whnf) | (refine iteNT (by omega) ?_; conv => whnf) | (refine iteNF (by omega) ?_; conv => whnf) | (refine WrapK.i64 (by omega) (by omega) ?_; conv => whnf) | (refine Hp.ld H 0 rfl rfl ?_; conv => whnf))
  refine FillK.row rfl ?_
  conv => whnf
  intro bs h2 N
  replace H := H.new N
  clear N
  conv => whnf
  refine CallK.mono (bridge_call (sts := [2, 2, 2, 2]) (H.whole 0 rfl rfl)) ?_
  rintro _ h3 ⟨g, gF, s0, s1, s2, s3, rfl, H3⟩
  repeat clear H
  have H : Hp h0 h3 [Res.vt g s0 s1 s2 s3 [p1, p1, p1, p1] [⟨1, 15, 15⟩], Res.ft gF (.slice none 0 0) [] 10 1000 0, Res.own (.slice (some ⟨bs, 0, none⟩) 4 4) 3 1 4 (([2, 2, 2, 2] : List Int).flatMap rI)] := H3
  clear H3
  conv => whnf
  intro b9 h4 N
  replace H := H.new N
  clear N
  conv => whnf
  repeat ((first | refine Hp.ld H 0 rfl rfl ?_ | (refine Hp.st H 0 rfl rfl rfl rfl rfl ?_; intro h H) | refine iteT (by omega) ?_ | refine iteF (by omega) ?_ | refine iteET (by omega) ?_ | refine iteEF (by omega) ?_ | refine iteNT (by omega) ?_ | refine iteNF (by omega) ?_ | refine WrapK.i64 (by omega) (by omega) ?_ | refine Drawn.mk (by kernel_rfl) ?_); conv => whnf)
  refine CallK.mono (set_call H 1 g _ _ _ _ _ _ rfl 2 15 0 (by decide) good_T1 (by decide) (by decide) (by decide) (by decide)) ?_
  rintro _ h5 ⟨rfl, t1, t2, t3, H5⟩
  repeat clear H
  have H : Hp h0 h5 [Res.ob b9 (.cells (brg g gF (.slice (some ⟨bs, 0, none⟩) 4 4)).toArray 31 (0, 0)), Res.vt g s0 t1 t2 t3 [p1, p1, p1, p1] T2, Res.ft gF (.slice none 0 0) [] 10 1000 0, Res.own (.slice (some ⟨bs, 0, none⟩) 4 4) 3 1 4 (([2, 2, 2, 2] : List Int).flatMap rI)] := H5
  clear H5
  conv => whnf
  refine FillK.lit rfl ?_
  conv => whnf
  refine FillK.lit rfl ?_
  conv => whnf
  intro b10 h6 N
  replace H := H.new N
  clear N
  conv => whnf
  intro b11 h7 N
  replace H := H.new N
  clear N
  conv => whnf
  repeat ((first | (refine Hp.st H 0 rfl rfl rfl rfl rfl ?_; intro h H) | (refine Hp.st H 1 rfl rfl rfl rfl rfl ?_; intro h H) | refine iteT (by omega) ?_ | refine iteF (by omega) ?_ | refine iteET (by omega) ?_ | refine iteEF (by omega) ?_ | refine iteNT (by omega) ?_ | refine iteNF (by omega) ?_ | refine WrapK.i64 (by omega) (by omega) ?_ | refine Drawn.mk (by kernel_rfl) ?_); conv => whnf)
  have HH : Hp h0 _ [Res.ob b11 (.cells (mx two).cells.toArray 36 (0, 0)), Res.ob b10 (.cells (mx one).cells.toArray 36 (0, 0)), Res.ob b9 (.cells (brg g gF (.slice (some ⟨bs, 0, none⟩) 4 4)).toArray 31 (0, 0)), Res.vt g s0 t1 t2 t3 [p1, p1, p1, p1] T2, Res.ft gF (.slice none 0 0) [] 10 1000 0, Res.own (.slice (some ⟨bs, 0, none⟩) 4 4) 3 1 4 (([2, 2, 2, 2] : List Int).flatMap rI)] := H
  repeat clear H
  have H := Hp.order HH 6 [3, 4, 5, 0, 1, 2] (by decide) rfl
  clear HH
  conv => whnf
  repeat ((first | refine Hp.ld H 5 rfl rfl ?_ | refine Hp.ld H 4 rfl rfl ?_ | refine Hp.ld H 3 rfl rfl ?_ | refine iteT (by omega) ?_ | refine iteF (by omega) ?_ | refine iteET (by omega) ?_ | refine iteEF (by omega) ?_ | refine iteNT (by omega) ?_ | refine iteNF (by omega) ?_ | refine WrapK.i64 (by omega) (by omega) ?_ | refine Drawn.mk (by kernel_rfl) ?_); conv => whnf)
  refine FillK.lit rfl ?_
  conv => whnf
  refine CallK.mono (decide_flood (sts := [2, 2, 2, 2]) (E1 := [⟨1, (mx one), p, 0⟩]) (lost1 := 0) H p (hd2 (mx two) (mx one)) 0 1 0 (by decide) (by decide) hsm GoodE.nil g1 (by decide) (by decide) (by decide) ry (f_class c1 c2 _ _) sx gy (congrArg Prod.snd l1) f1 L1 hL1 (ne_len hl1)) ?_
  rintro _ h10 ⟨sw, z1, rfl, HX⟩
  repeat clear H
  rw [hl1] at HX
  obtain ⟨A1, c10, rfl⟩ := own_shape (HX.get 0 rfl)
  have H : Hp h0 h10 [Res.own (.slice A1 3 c10) 3 1 3 (L1.flatMap rI), Res.vt g s0 t1 t2 t3 [p1, p1, p1, p1] T2, Res.ft gF z1 [⟨1, (mx one), p, 0⟩] 10 1000 0, Res.own (.slice (some ⟨bs, 0, none⟩) 4 4) 3 1 4 (([2, 2, 2, 2] : List Int).flatMap rI), Res.ob b11 (.cells (mx two).cells.toArray 36 (0, 0)), Res.ob b10 (.cells (mx one).cells.toArray 36 (0, 0)), Res.ob b9 (.cells (brg g gF (.slice (some ⟨bs, 0, none⟩) 4 4)).toArray 31 (0, 0))] := HX
  clear HX
  conv => whnf
  intro b21 h11 N
  replace H := H.new N
  clear N
  conv => whnf
  repeat ((first | (refine Hp.st H 0 rfl rfl rfl rfl rfl ?_; intro h H) | refine iteT (by omega) ?_ | refine iteF (by omega) ?_ | refine iteET (by omega) ?_ | refine iteEF (by omega) ?_ | refine iteNT (by omega) ?_ | refine iteNF (by omega) ?_ | refine WrapK.i64 (by omega) (by omega) ?_ | refine Drawn.mk (by kernel_rfl) ?_); conv => whnf)
  have HH : Hp h0 _ [Res.ob b21 (.cells (wayC 1 0 (.slice A1 3 c10) 0).toArray 38 (0, 0)), Res.own (.slice A1 3 c10) 3 1 3 (L1.flatMap rI), Res.vt g s0 t1 t2 t3 [p1, p1, p1, p1] T2, Res.ft gF z1 [⟨1, (mx one), p, 0⟩] 10 1000 0, Res.own (.slice (some ⟨bs, 0, none⟩) 4 4) 3 1 4 (([2, 2, 2, 2] : List Int).flatMap rI), Res.ob b11 (.cells (mx two).cells.toArray 36 (0, 0)), Res.ob b10 (.cells (mx one).cells.toArray 36 (0, 0)), Res.ob b9 (.cells (brg g gF (.slice (some ⟨bs, 0, none⟩) 4 4)).toArray 31 (0, 0))] := H
  repeat clear H
  have H := Hp.order HH 8 [2, 3, 4, 0, 1, 5, 6, 7] (by decide) rfl
  clear HH
  conv => whnf
  repeat ((first | refine Hp.ld H 7 rfl rfl ?_ | refine Hp.ld H 6 rfl rfl ?_ | refine Hp.ld H 5 rfl rfl ?_ | refine iteT (by omega) ?_ | refine iteF (by omega) ?_ | refine iteET (by omega) ?_ | refine iteEF (by omega) ?_ | refine iteNT (by omega) ?_ | refine iteNF (by omega) ?_ | refine WrapK.i64 (by omega) (by omega) ?_ | refine Drawn.mk (by kernel_rfl) ?_); conv => whnf)
  refine FillK.lit rfl ?_
  conv => whnf
  refine CallK.mono (decide_known (sts := [2, 2, 2, 2]) (E1 := [⟨1, (mx one), p, 0⟩, ⟨1, (mx two), q, 1⟩]) (lost1 := 0) H q (hd2 (mx one) (mx two)) 1 1 0 (by decide) (by decide) hsm g1 g2 (by decide) (by decide) (by decide) rx (f_class c3 c4 _ _) sy gx (congrArg Prod.snd l2) p f2 c5 ox) ?_
  rintro _ h20 ⟨sw, z2, rfl, HX⟩
  repeat clear H
  obtain ⟨A2, c20, rfl⟩ := own_shape (HX.get 0 rfl)
  have H : Hp h0 h20 [Res.own (.slice A2 1 c20) 3 1 1 (rI p), Res.vt g s0 t1 t2 t3 [p1, p1, p1, p1] T2, Res.ft gF z2 [⟨1, (mx one), p, 0⟩, ⟨1, (mx two), q, 1⟩] 10 1000 0, Res.own (.slice (some ⟨bs, 0, none⟩) 4 4) 3 1 4 (([2, 2, 2, 2] : List Int).flatMap rI), Res.ob b21 (.cells (wayC 1 0 (.slice A1 3 c10) 0).toArray 38 (0, 0)), Res.own (.slice A1 3 c10) 3 1 3 (L1.flatMap rI), Res.ob b11 (.cells (mx two).cells.toArray 36 (0, 0)), Res.ob b10 (.cells (mx one).cells.toArray 36 (0, 0)), Res.ob b9 (.cells (brg g gF (.slice (some ⟨bs, 0, none⟩) 4 4)).toArray 31 (0, 0))] := HX
  clear HX
  conv => whnf
  intro b22 h21 N
  replace H := H.new N
  clear N
  conv => whnf
  repeat ((first | (refine Hp.st H 0 rfl rfl rfl rfl rfl ?_; intro h H) | refine iteT (by omega) ?_ | refine iteF (by omega) ?_ | refine iteET (by omega) ?_ | refine iteEF (by omega) ?_ | refine iteNT (by omega) ?_ | refine iteNF (by omega) ?_ | refine WrapK.i64 (by omega) (by omega) ?_ | refine Drawn.mk (by kernel_rfl) ?_); conv => whnf)
  have HH : Hp h0 _ [Res.ob b22 (.cells (wayC 1 0 (.slice A2 1 c20) 0).toArray 38 (0, 0)), Res.own (.slice A2 1 c20) 3 1 1 (rI p), Res.vt g s0 t1 t2 t3 [p1, p1, p1, p1] T2, Res.ft gF z2 [⟨1, (mx one), p, 0⟩, ⟨1, (mx two), q, 1⟩] 10 1000 0, Res.own (.slice (some ⟨bs, 0, none⟩) 4 4) 3 1 4 (([2, 2, 2, 2] : List Int).flatMap rI), Res.ob b21 (.cells (wayC 1 0 (.slice A1 3 c10) 0).toArray 38 (0, 0)), Res.own (.slice A1 3 c10) 3 1 3 (L1.flatMap rI), Res.ob b11 (.cells (mx two).cells.toArray 36 (0, 0)), Res.ob b10 (.cells (mx one).cells.toArray 36 (0, 0)), Res.ob b9 (.cells (brg g gF (.slice (some ⟨bs, 0, none⟩) 4 4)).toArray 31 (0, 0))] := H
  repeat clear H
  have H := Hp.order HH 10 [2, 3, 4, 0, 1, 5, 6, 7, 8, 9] (by decide) rfl
  clear HH
  conv => whnf
  repeat ((first | refine Hp.ld H 9 rfl rfl ?_ | refine Hp.ld H 8 rfl rfl ?_ | refine Hp.ld H 7 rfl rfl ?_ | refine iteT (by omega) ?_ | refine iteF (by omega) ?_ | refine iteET (by omega) ?_ | refine iteEF (by omega) ?_ | refine iteNT (by omega) ?_ | refine iteNF (by omega) ?_ | refine WrapK.i64 (by omega) (by omega) ?_ | refine Drawn.mk (by kernel_rfl) ?_); conv => whnf)
  refine FillK.lit rfl ?_
  conv => whnf
  refine CallK.mono (decide_known (sts := [2, 2, 2, 2]) (E1 := [⟨1, (mx two), q, 1⟩, ⟨1, (mx one), p, 2⟩]) (lost1 := 0) H p (hd2 (mx two) (mx one)) 2 1 0 (by decide) (by decide) hsm g2 g3 (by decide) (by decide) (by decide) ry (f_class c1 c2 _ _) sx gy (congrArg Prod.snd l3) q f3 (fun e => c5 e.symm) oy) ?_
  rintro _ h30 ⟨sw, z3, rfl, HX⟩
  repeat clear H
  obtain ⟨A3, c30, rfl⟩ := own_shape (HX.get 0 rfl)
  have H : Hp h0 h30 [Res.own (.slice A3 1 c30) 3 1 1 (rI q), Res.vt g s0 t1 t2 t3 [p1, p1, p1, p1] T2, Res.ft gF z3 [⟨1, (mx two), q, 1⟩, ⟨1, (mx one), p, 2⟩] 10 1000 0, Res.own (.slice (some ⟨bs, 0, none⟩) 4 4) 3 1 4 (([2, 2, 2, 2] : List Int).flatMap rI), Res.ob b22 (.cells (wayC 1 0 (.slice A2 1 c20) 0).toArray 38 (0, 0)), Res.own (.slice A2 1 c20) 3 1 1 (rI p), Res.ob b21 (.cells (wayC 1 0 (.slice A1 3 c10) 0).toArray 38 (0, 0)), Res.own (.slice A1 3 c10) 3 1 3 (L1.flatMap rI), Res.ob b11 (.cells (mx two).cells.toArray 36 (0, 0)), Res.ob b10 (.cells (mx one).cells.toArray 36 (0, 0)), Res.ob b9 (.cells (brg g gF (.slice (some ⟨bs, 0, none⟩) 4 4)).toArray 31 (0, 0))] := HX
  clear HX
  conv => whnf
  intro b23 h31 N
  replace H := H.new N
  clear N
  conv => whnf
  repeat ((first | (refine Hp.st H 0 rfl rfl rfl rfl rfl ?_; intro h H) | refine iteT (by omega) ?_ | refine iteF (by omega) ?_ | refine iteET (by omega) ?_ | refine iteEF (by omega) ?_ | refine iteNT (by omega) ?_ | refine iteNF (by omega) ?_ | refine WrapK.i64 (by omega) (by omega) ?_ | refine Drawn.mk (by kernel_rfl) ?_); conv => whnf)
  have HH : Hp h0 _ [Res.ob b23 (.cells (wayC 1 0 (.slice A3 1 c30) 0).toArray 38 (0, 0)), Res.own (.slice A3 1 c30) 3 1 1 (rI q), Res.vt g s0 t1 t2 t3 [p1, p1, p1, p1] T2, Res.ft gF z3 [⟨1, (mx two), q, 1⟩, ⟨1, (mx one), p, 2⟩] 10 1000 0, Res.own (.slice (some ⟨bs, 0, none⟩) 4 4) 3 1 4 (([2, 2, 2, 2] : List Int).flatMap rI), Res.ob b22 (.cells (wayC 1 0 (.slice A2 1 c20) 0).toArray 38 (0, 0)), Res.own (.slice A2 1 c20) 3 1 1 (rI p), Res.ob b21 (.cells (wayC 1 0 (.slice A1 3 c10) 0).toArray 38 (0, 0)), Res.own (.slice A1 3 c10) 3 1 3 (L1.flatMap rI), Res.ob b11 (.cells (mx two).cells.toArray 36 (0, 0)), Res.ob b10 (.cells (mx one).cells.toArray 36 (0, 0)), Res.ob b9 (.cells (brg g gF (.slice (some ⟨bs, 0, none⟩) 4 4)).toArray 31 (0, 0))] := H
  repeat clear H
  have H := Hp.order HH 12 [2, 3, 4, 0, 1, 5, 6, 7, 8, 9, 10, 11] (by decide) rfl
  clear HH
  conv => whnf
  repeat ((first | refine Hp.ld H 11 rfl rfl ?_ | refine Hp.ld H 10 rfl rfl ?_ | refine Hp.ld H 9 rfl rfl ?_ | refine iteT (by omega) ?_ | refine iteF (by omega) ?_ | refine iteET (by omega) ?_ | refine iteEF (by omega) ?_ | refine iteNT (by omega) ?_ | refine iteNF (by omega) ?_ | refine WrapK.i64 (by omega) (by omega) ?_ | refine Drawn.mk (by kernel_rfl) ?_); conv => whnf)
  refine FillK.lit rfl ?_
  conv => whnf
  refine CallK.mono (decide_flood (sts := [2, 2, 2, 2]) (E1 := [⟨1, (mx two), q, 1⟩, ⟨1, (mx one), p, 2⟩, ⟨2, (mx one), p, 3⟩]) (lost1 := 0) H p (hdT (mx two) (mx one)) 3 2 0 (by decide) (by decide) hsm g3 g4 (by decide) (by decide) (by decide) ry (f_class2 c1 c2 _ _) sx gy (congrArg Prod.snd l4) f4 L4 hL4 (ne_len hl4)) ?_
  rintro _ h40 ⟨sw, z4, rfl, HX⟩
  repeat clear H
  rw [hl4] at HX
  obtain ⟨A4, c40, rfl⟩ := own_shape (HX.get 0 rfl)
  have H : Hp h0 h40 [Res.own (.slice A4 3 c40) 3 1 3 (L4.flatMap rI), Res.vt g s0 t1 t2 t3 [p1, p1, p1, p1] T2, Res.ft gF z4 [⟨1, (mx two), q, 1⟩, ⟨1, (mx one), p, 2⟩, ⟨2, (mx one), p, 3⟩] 10 1000 0, Res.own (.slice (some ⟨bs, 0, none⟩) 4 4) 3 1 4 (([2, 2, 2, 2] : List Int).flatMap rI), Res.ob b23 (.cells (wayC 1 0 (.slice A3 1 c30) 0).toArray 38 (0, 0)), Res.own (.slice A3 1 c30) 3 1 1 (rI q), Res.ob b22 (.cells (wayC 1 0 (.slice A2 1 c20) 0).toArray 38 (0, 0)), Res.own (.slice A2 1 c20) 3 1 1 (rI p), Res.ob b21 (.cells (wayC 1 0 (.slice A1 3 c10) 0).toArray 38 (0, 0)), Res.own (.slice A1 3 c10) 3 1 3 (L1.flatMap rI), Res.ob b11 (.cells (mx two).cells.toArray 36 (0, 0)), Res.ob b10 (.cells (mx one).cells.toArray 36 (0, 0)), Res.ob b9 (.cells (brg g gF (.slice (some ⟨bs, 0, none⟩) 4 4)).toArray 31 (0, 0))] := HX
  clear HX
  conv => whnf
  intro b24 h41 N
  replace H := H.new N
  clear N
  conv => whnf
  repeat ((first | (refine Hp.st H 0 rfl rfl rfl rfl rfl ?_; intro h H) | refine iteT (by omega) ?_ | refine iteF (by omega) ?_ | refine iteET (by omega) ?_ | refine iteEF (by omega) ?_ | refine iteNT (by omega) ?_ | refine iteNF (by omega) ?_ | refine WrapK.i64 (by omega) (by omega) ?_ | refine Drawn.mk (by kernel_rfl) ?_); conv => whnf)
  have HH : Hp h0 _ [Res.ob b24 (.cells (wayC 2 0 (.slice A4 3 c40) 0).toArray 38 (0, 0)), Res.own (.slice A4 3 c40) 3 1 3 (L4.flatMap rI), Res.vt g s0 t1 t2 t3 [p1, p1, p1, p1] T2, Res.ft gF z4 [⟨1, (mx two), q, 1⟩, ⟨1, (mx one), p, 2⟩, ⟨2, (mx one), p, 3⟩] 10 1000 0, Res.own (.slice (some ⟨bs, 0, none⟩) 4 4) 3 1 4 (([2, 2, 2, 2] : List Int).flatMap rI), Res.ob b23 (.cells (wayC 1 0 (.slice A3 1 c30) 0).toArray 38 (0, 0)), Res.own (.slice A3 1 c30) 3 1 1 (rI q), Res.ob b22 (.cells (wayC 1 0 (.slice A2 1 c20) 0).toArray 38 (0, 0)), Res.own (.slice A2 1 c20) 3 1 1 (rI p), Res.ob b21 (.cells (wayC 1 0 (.slice A1 3 c10) 0).toArray 38 (0, 0)), Res.own (.slice A1 3 c10) 3 1 3 (L1.flatMap rI), Res.ob b11 (.cells (mx two).cells.toArray 36 (0, 0)), Res.ob b10 (.cells (mx one).cells.toArray 36 (0, 0)), Res.ob b9 (.cells (brg g gF (.slice (some ⟨bs, 0, none⟩) 4 4)).toArray 31 (0, 0))] := H
  repeat clear H
  have H := Hp.order HH 14 [2, 3, 4, 0, 1, 5, 6, 7, 8, 9, 10, 11, 12, 13] (by decide) rfl
  clear HH
  have xv : IntsR h (.slice A2 1 c20) [p] := RowsV.of_own (H.get 8 rfl) (fun _ => rfl) (by decide)
  have yv : IntsR h (.slice A3 1 c30) [q] := RowsV.of_own (H.get 6 rfl) (fun _ => rfl) (by decide)
  obtain ⟨xb, xo, rfl⟩ := xv.some (Nat.lt_succ_self 0)
  obtain ⟨yb, yo, rfl⟩ := yv.some (Nat.lt_succ_self 0)
  conv => whnf
  repeat ((first | refine Hp.ld H 9 rfl rfl ?_ | refine Hp.ld H 7 rfl rfl ?_ | refine iteT (by omega) ?_ | refine iteF (by omega) ?_ | refine iteET (by omega) ?_ | refine iteEF (by omega) ?_ | refine iteNT (by omega) ?_ | refine iteNF (by omega) ?_ | refine WrapK.i64 (by omega) (by omega) ?_ | refine Drawn.mk (by kernel_rfl) ?_); conv => whnf)
  refine rint_ld xv (i := 0) rfl rfl rfl rfl (by first | omega | (simp; done) | (simp; omega)) ?_
  conv => whnf
  rw [show (p == p) = true from beq_self_eq_true p]
  conv => whnf
  repeat ((first | refine Hp.ld H 5 rfl rfl ?_ | refine iteT (by omega) ?_ | refine iteF (by omega) ?_ | refine iteET (by omega) ?_ | refine iteEF (by omega) ?_ | refine iteNT (by omega) ?_ | refine iteNF (by omega) ?_ | refine WrapK.i64 (by omega) (by omega) ?_ | refine Drawn.mk (by kernel_rfl) ?_); conv => whnf)
  refine rint_ld yv (i := 0) rfl rfl rfl rfl (by first | omega | (simp; done) | (simp; omega)) ?_
  conv => whnf
  rw [show (q == q) = true from beq_self_eq_true q]
  conv => whnf
  repeat ((first | refine Hp.ld H 3 rfl rfl ?_ | refine iteT (by omega) ?_ | refine iteF (by omega) ?_ | refine iteET (by omega) ?_ | refine iteEF (by omega) ?_ | refine iteNT (by omega) ?_ | refine iteNF (by omega) ?_ | refine WrapK.i64 (by omega) (by omega) ?_ | refine Drawn.mk (by kernel_rfl) ?_); conv => whnf)
  exact ⟨rfl, H.keep⟩

end Go.Proofs.Ytcjilkemfmhkgaa
