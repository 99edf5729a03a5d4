import Derived.Test.YtcjilkemfmhkgaaRelay2
import Derived.Test.YtcjilkemfmhkgaaResv
namespace Go.Proofs.Ytcjilkemfmhkgaa
open Go.Vc
set_option maxRecDepth 10000
set_option maxHeartbeats 4000000

/-! ### relay: where a frame goes: to all others -/

theorem decide_flood {g gF : Nat} {sS s0 s1 s2 s3 s : Value} {ps : List VPort} {T : List VRow} {sts : List Int} {E E1 : List FEnt} {room age lost lost1 : Int} {h0 h : Heap} {rs : List Res}
    (H : Hp h0 h (Res.vt g s0 s1 s2 s3 ps T :: Res.ft gF s E room age lost :: Res.own sS 3 1 sts.length (sts.flatMap rI) :: rs)) (port : Int) (F : Hdr) (now vid pcp : Int) (hpl : ps.length ≤ 16) (hl : T.length ≤ 9223372036854775807) (hsm : SmallT T)
    (hg : GoodE E) (hg1 : GoodE E1) (hn1 : 0 ≤ now) (hn2 : now ≤ 1152921504606846976) (hlo : 0 ≤ lost ∧ lost ≤ 1000000) (hr : F.dst.reserved = false) (hc : classF ps T port F.tagged F.pcp F.vid = (vid, pcp, 0)) (h2 : stF sts port = 2) (hgr : F.dst.group = false)
    (hle : (learnF room age vid F.src port now E lost).2 = (E1, lost1)) (hf : (findE' E1 vid F.dst age now).2 ≠ 0) (L : List Int) (hL : outP T sts port vid ps.length = L) (hne : L ≠ []) :
    CallK Try.prog 10 #[.agg (brg g gF sS).toArray, .int .i64 port, .agg F.cells.toArray, .int .i64 now] h fun v h' => ∃ sv s', v = .agg (wayC vid pcp sv 0).toArray ∧
      Hp h0 h' (Res.own sv 3 1 L.length (L.flatMap rI) :: Res.vt g s0 s1 s2 s3 ps T :: Res.ft gF s' E1 room age lost1 :: Res.own sS 3 1 sts.length (sts.flatMap rI) :: rs) := by
  obtain ⟨A, c, rfl⟩ := own_shape (H.get 2 rfl)
  refine CallK.of_range EW_ok (81 :: [0, 1, 2, 3, 4, 6, 8, 9, 10, 11, 12, 13, 14, 18, 29, 31, 33, 42, 54, 60, 72, 92]) 8 2 Try.func10 rfl (Nat.le_of_ble_eq_true rfl) rfl (by decide) (by decide) (by decide) rfl ?_
  conv => whnf
  repeat ((first | refine cnd_intro (by first | (simp; done) | (simp; omega) | omega | (simp only [Bool.and_eq_true, decide_eq_true_eq]; omega)) ?_ | refine Hp.ld H 0 rfl rfl ?_ | refine Hp.ld H 1 rfl rfl ?_ | refine Hp.ld H 2 rfl rfl ?_ | refine Hp.ld H 3 rfl rfl ?_ | refine Hp.ld H 4 rfl rfl ?_ | refine Hp.ld H 5 rfl rfl ?_ | (refine Hp.st H 0 rfl rfl rfl rfl rfl ?_; intro h H) | (refine Hp.st H 1 rfl rfl rfl rfl rfl ?_; intro h H) | (refine Hp.st H 2 rfl rfl rfl rfl rfl ?_; intro h H) | (refine Hp.st H 3 rfl rfl rfl rfl rfl ?_; intro h H) | (refine Hp.st H 4 rfl rfl rfl rfl rfl ?_; intro h H) | (refine Hp.st H 5 rfl rfl rfl rfl rfl ?_; intro h H) | (intro b h N; replace H := Hp.new H N; clear N) | refine Drawn.mk (by kernel_rfl) ?_ | refine FillK.row rfl ?_ | refine FillK.lit rfl ?_ | refine WrapK.i64 (by omega) (by omega) ?_ | refine WrapK.u64 (by omega) (by omega) ?_ | refine WrapK.u32 (by omega) (by omega) ?_ | refine WrapK.u8 (by omega) (by omega) ?_ | refine iteT (by omega) ?_ | refine iteF (by omega) ?_ | refine iteET (by omega) ?_ | refine iteEF (by omega) ?_ | refine iteNT (by omega) ?_ | refine iteNF (by omega) ?_); conv => whnf)
  refine CallK.mono (breserved_call _ F.dst) ?_
  rintro w h3 ⟨k3, ew⟩
  rw [hr] at ew
  subst ew
  replace H := H.and k3
  clear k3
  conv => whnf
  repeat ((first | refine cnd_intro (by first | (simp; done) | (simp; omega) | omega | (simp only [Bool.and_eq_true, decide_eq_true_eq]; omega)) ?_ | refine Hp.ld H 0 rfl rfl ?_ | refine Hp.ld H 1 rfl rfl ?_ | refine Hp.ld H 2 rfl rfl ?_ | refine Hp.ld H 3 rfl rfl ?_ | refine Hp.ld H 4 rfl rfl ?_ | refine Hp.ld H 5 rfl rfl ?_ | (refine Hp.st H 0 rfl rfl rfl rfl rfl ?_; intro h H) | (refine Hp.st H 1 rfl rfl rfl rfl rfl ?_; intro h H) | (refine Hp.st H 2 rfl rfl rfl rfl rfl ?_; intro h H) | (refine Hp.st H 3 rfl rfl rfl rfl rfl ?_; intro h H) | (refine Hp.st H 4 rfl rfl rfl rfl rfl ?_; intro h H) | (refine Hp.st H 5 rfl rfl rfl rfl rfl ?_; intro h H) | (intro b h N; replace H := Hp.new H N; clear N) | refine Drawn.mk (by kernel_rfl) ?_ | refine FillK.row rfl ?_ | refine FillK.lit rfl ?_ | refine WrapK.i64 (by omega) (by omega) ?_ | refine WrapK.u64 (by omega) (by omega) ?_ | refine WrapK.u32 (by omega) (by omega) ?_ | refine WrapK.u8 (by omega) (by omega) ?_ | refine iteT (by omega) ?_ | refine iteF (by omega) ?_ | refine iteET (by omega) ?_ | refine iteEF (by omega) ?_ | refine iteNT (by omega) ?_ | refine iteNF (by omega) ?_); conv => whnf)
  refine CallK.mono (classify_call _ g _ _ _ _ ps T port F (vt_view (i := 3) H rfl) hpl hl hsm) ?_
  rintro w h4 ⟨k4, ew⟩
  rw [hc] at ew
  subst ew
  replace H := H.and k4
  clear k4
  conv => whnf
  repeat ((first | refine cnd_intro (by first | (simp; done) | (simp; omega) | omega | (simp only [Bool.and_eq_true, decide_eq_true_eq]; omega)) ?_ | refine Hp.ld H 0 rfl rfl ?_ | refine Hp.ld H 1 rfl rfl ?_ | refine Hp.ld H 2 rfl rfl ?_ | refine Hp.ld H 3 rfl rfl ?_ | refine Hp.ld H 4 rfl rfl ?_ | refine Hp.ld H 5 rfl rfl ?_ | (refine Hp.st H 0 rfl rfl rfl rfl rfl ?_; intro h H) | (refine Hp.st H 1 rfl rfl rfl rfl rfl ?_; intro h H) | (refine Hp.st H 2 rfl rfl rfl rfl rfl ?_; intro h H) | (refine Hp.st H 3 rfl rfl rfl rfl rfl ?_; intro h H) | (refine Hp.st H 4 rfl rfl rfl rfl rfl ?_; intro h H) | (refine Hp.st H 5 rfl rfl rfl rfl rfl ?_; intro h H) | (intro b h N; replace H := Hp.new H N; clear N) | refine Drawn.mk (by kernel_rfl) ?_ | refine FillK.row rfl ?_ | refine FillK.lit rfl ?_ | refine WrapK.i64 (by omega) (by omega) ?_ | refine WrapK.u64 (by omega) (by omega) ?_ | refine WrapK.u32 (by omega) (by omega) ?_ | refine WrapK.u8 (by omega) (by omega) ?_ | refine iteT (by omega) ?_ | refine iteF (by omega) ?_ | refine iteET (by omega) ?_ | refine iteEF (by omega) ?_ | refine iteNT (by omega) ?_ | refine iteNF (by omega) ?_); conv => whnf)
  have hst := fun (rs : List Res) (h : Heap) (H : Hp h0 h rs) (i : Nat) (hn : nth rs i = some (Res.own (.slice A sts.length c) 3 1 sts.length (sts.flatMap rI))) => state_call h g gF (.slice A sts.length c) sts port (RowsV.of_own (H.get i hn) (fun _ => rfl) (by decide))
  rw [h2] at hst
  refine CallK.mono (hst _ _ H 6 rfl) ?_
  rintro _ h5 ⟨k5, rfl⟩
  replace H := H.and k5
  clear k5
  conv => whnf
  repeat ((first | refine cnd_intro (by first | (simp; done) | (simp; omega) | omega | (simp only [Bool.and_eq_true, decide_eq_true_eq]; omega)) ?_ | refine Hp.ld H 0 rfl rfl ?_ | refine Hp.ld H 1 rfl rfl ?_ | refine Hp.ld H 2 rfl rfl ?_ | refine Hp.ld H 3 rfl rfl ?_ | refine Hp.ld H 4 rfl rfl ?_ | refine Hp.ld H 5 rfl rfl ?_ | (refine Hp.st H 0 rfl rfl rfl rfl rfl ?_; intro h H) | (refine Hp.st H 1 rfl rfl rfl rfl rfl ?_; intro h H) | (refine Hp.st H 2 rfl rfl rfl rfl rfl ?_; intro h H) | (refine Hp.st H 3 rfl rfl rfl rfl rfl ?_; intro h H) | (refine Hp.st H 4 rfl rfl rfl rfl rfl ?_; intro h H) | (refine Hp.st H 5 rfl rfl rfl rfl rfl ?_; intro h H) | (intro b h N; replace H := Hp.new H N; clear N) | refine Drawn.mk (by kernel_rfl) ?_ | refine FillK.row rfl ?_ | refine FillK.lit rfl ?_ | refine WrapK.i64 (by omega) (by omega) ?_ | refine WrapK.u64 (by omega) (by omega) ?_ | refine WrapK.u32 (by omega) (by omega) ?_ | refine WrapK.u8 (by omega) (by omega) ?_ | refine iteT (by omega) ?_ | refine iteF (by omega) ?_ | refine iteET (by omega) ?_ | refine iteEF (by omega) ?_ | refine iteNT (by omega) ?_ | refine iteNF (by omega) ?_); conv => whnf)
  refine CallK.mono (learn_call H 5 gF s E room age lost vid port now F.src rfl hg hn1 hn2 hlo) ?_
  rintro w h6 ⟨_, s', H6⟩
  rw [hle] at H6
  replace H := H6
  conv => whnf
  repeat ((first | refine cnd_intro (by first | (simp; done) | (simp; omega) | omega | (simp only [Bool.and_eq_true, decide_eq_true_eq]; omega)) ?_ | refine Hp.ld H 0 rfl rfl ?_ | refine Hp.ld H 1 rfl rfl ?_ | refine Hp.ld H 2 rfl rfl ?_ | refine Hp.ld H 3 rfl rfl ?_ | refine Hp.ld H 4 rfl rfl ?_ | refine Hp.ld H 5 rfl rfl ?_ | (refine Hp.st H 0 rfl rfl rfl rfl rfl ?_; intro h H) | (refine Hp.st H 1 rfl rfl rfl rfl rfl ?_; intro h H) | (refine Hp.st H 2 rfl rfl rfl rfl rfl ?_; intro h H) | (refine Hp.st H 3 rfl rfl rfl rfl rfl ?_; intro h H) | (refine Hp.st H 4 rfl rfl rfl rfl rfl ?_; intro h H) | (refine Hp.st H 5 rfl rfl rfl rfl rfl ?_; intro h H) | (intro b h N; replace H := Hp.new H N; clear N) | refine Drawn.mk (by kernel_rfl) ?_ | refine FillK.row rfl ?_ | refine FillK.lit rfl ?_ | refine WrapK.i64 (by omega) (by omega) ?_ | refine WrapK.u64 (by omega) (by omega) ?_ | refine WrapK.u32 (by omega) (by omega) ?_ | refine WrapK.u8 (by omega) (by omega) ?_ | refine iteT (by omega) ?_ | refine iteF (by omega) ?_ | refine iteET (by omega) ?_ | refine iteEF (by omega) ?_ | refine iteNT (by omega) ?_ | refine iteNF (by omega) ?_); conv => whnf)
  refine CallK.mono (hst _ _ H 6 rfl) ?_
  rintro _ h7 ⟨k7, rfl⟩
  replace H := H.and k7
  clear k7
  conv => whnf
  repeat ((first | refine cnd_intro (by first | (simp; done) | (simp; omega) | omega | (simp only [Bool.and_eq_true, decide_eq_true_eq]; omega)) ?_ | refine Hp.ld H 0 rfl rfl ?_ | refine Hp.ld H 1 rfl rfl ?_ | refine Hp.ld H 2 rfl rfl ?_ | refine Hp.ld H 3 rfl rfl ?_ | refine Hp.ld H 4 rfl rfl ?_ | refine Hp.ld H 5 rfl rfl ?_ | (refine Hp.st H 0 rfl rfl rfl rfl rfl ?_; intro h H) | (refine Hp.st H 1 rfl rfl rfl rfl rfl ?_; intro h H) | (refine Hp.st H 2 rfl rfl rfl rfl rfl ?_; intro h H) | (refine Hp.st H 3 rfl rfl rfl rfl rfl ?_; intro h H) | (refine Hp.st H 4 rfl rfl rfl rfl rfl ?_; intro h H) | (refine Hp.st H 5 rfl rfl rfl rfl rfl ?_; intro h H) | (intro b h N; replace H := Hp.new H N; clear N) | refine Drawn.mk (by kernel_rfl) ?_ | refine FillK.row rfl ?_ | refine FillK.lit rfl ?_ | refine WrapK.i64 (by omega) (by omega) ?_ | refine WrapK.u64 (by omega) (by omega) ?_ | refine WrapK.u32 (by omega) (by omega) ?_ | refine WrapK.u8 (by omega) (by omega) ?_ | refine iteT (by omega) ?_ | refine iteF (by omega) ?_ | refine iteET (by omega) ?_ | refine iteEF (by omega) ?_ | refine iteNT (by omega) ?_ | refine iteNF (by omega) ?_); conv => whnf)
  refine CallK.mono (group_call _ F.dst) ?_
  rintro w h8 ⟨k8, ew⟩
  rw [hgr] at ew
  subst ew
  replace H := H.and k8
  clear k8
  conv => whnf
  repeat ((first | refine cnd_intro (by first | (simp; done) | (simp; omega) | omega | (simp only [Bool.and_eq_true, decide_eq_true_eq]; omega)) ?_ | refine Hp.ld H 0 rfl rfl ?_ | refine Hp.ld H 1 rfl rfl ?_ | refine Hp.ld H 2 rfl rfl ?_ | refine Hp.ld H 3 rfl rfl ?_ | refine Hp.ld H 4 rfl rfl ?_ | refine Hp.ld H 5 rfl rfl ?_ | (refine Hp.st H 0 rfl rfl rfl rfl rfl ?_; intro h H) | (refine Hp.st H 1 rfl rfl rfl rfl rfl ?_; intro h H) | (refine Hp.st H 2 rfl rfl rfl rfl rfl ?_; intro h H) | (refine Hp.st H 3 rfl rfl rfl rfl rfl ?_; intro h H) | (refine Hp.st H 4 rfl rfl rfl rfl rfl ?_; intro h H) | (refine Hp.st H 5 rfl rfl rfl rfl rfl ?_; intro h H) | (intro b h N; replace H := Hp.new H N; clear N) | refine Drawn.mk (by kernel_rfl) ?_ | refine FillK.row rfl ?_ | refine FillK.lit rfl ?_ | refine WrapK.i64 (by omega) (by omega) ?_ | refine WrapK.u64 (by omega) (by omega) ?_ | refine WrapK.u32 (by omega) (by omega) ?_ | refine WrapK.u8 (by omega) (by omega) ?_ | refine iteT (by omega) ?_ | refine iteF (by omega) ?_ | refine iteET (by omega) ?_ | refine iteEF (by omega) ?_ | refine iteNT (by omega) ?_ | refine iteNF (by omega) ?_); conv => whnf)
  refine CallK.mono (ffind_call _ gF s' E1 room age lost1 vid now F.dst (ft_view (i := 5) H rfl) hg1 hn1 hn2) ?_
  rintro _ h9 ⟨k9, rfl⟩
  replace H := H.and k9
  clear k9
  generalize findE' E1 vid F.dst age now = fe at hf ⊢
  obtain ⟨f1, f2⟩ := fe
  change f2 ≠ 0 at hf
  conv => whnf
  repeat ((first | refine cnd_intro (by first | (simp; done) | (simp; omega) | omega | (simp only [Bool.and_eq_true, decide_eq_true_eq]; omega)) ?_ | refine Hp.ld H 0 rfl rfl ?_ | refine Hp.ld H 1 rfl rfl ?_ | refine Hp.ld H 2 rfl rfl ?_ | refine Hp.ld H 3 rfl rfl ?_ | refine Hp.ld H 4 rfl rfl ?_ | refine Hp.ld H 5 rfl rfl ?_ | (refine Hp.st H 0 rfl rfl rfl rfl rfl ?_; intro h H) | (refine Hp.st H 1 rfl rfl rfl rfl rfl ?_; intro h H) | (refine Hp.st H 2 rfl rfl rfl rfl rfl ?_; intro h H) | (refine Hp.st H 3 rfl rfl rfl rfl rfl ?_; intro h H) | (refine Hp.st H 4 rfl rfl rfl rfl rfl ?_; intro h H) | (refine Hp.st H 5 rfl rfl rfl rfl rfl ?_; intro h H) | (intro b h N; replace H := Hp.new H N; clear N) | refine Drawn.mk (by kernel_rfl) ?_ | refine FillK.row rfl ?_ | refine FillK.lit rfl ?_ | refine WrapK.i64 (by omega) (by omega) ?_ | refine WrapK.u64 (by omega) (by omega) ?_ | refine WrapK.u32 (by omega) (by omega) ?_ | refine WrapK.u8 (by omega) (by omega) ?_ | refine iteT (by omega) ?_ | refine iteF (by omega) ?_ | refine iteET (by omega) ?_ | refine iteEF (by omega) ?_ | refine iteNT (by omega) ?_ | refine iteNF (by omega) ?_); conv => whnf)
  refine CallK.mono (others_call _ g gF (.slice A sts.length c) port vid ⟨_, _, _, rfl⟩) ?_
  rintro w h10 ⟨b1, b2, b3, rfl, H10⟩
  replace H := H.join H10
  conv => whnf
  repeat ((first | refine cnd_intro (by first | (simp; done) | (simp; omega) | omega | (simp only [Bool.and_eq_true, decide_eq_true_eq]; omega)) ?_ | refine Hp.ld H 0 rfl rfl ?_ | refine Hp.ld H 1 rfl rfl ?_ | refine Hp.ld H 2 rfl rfl ?_ | refine Hp.ld H 3 rfl rfl ?_ | refine Hp.ld H 4 rfl rfl ?_ | refine Hp.ld H 5 rfl rfl ?_ | (refine Hp.st H 0 rfl rfl rfl rfl rfl ?_; intro h H) | (refine Hp.st H 1 rfl rfl rfl rfl rfl ?_; intro h H) | (refine Hp.st H 2 rfl rfl rfl rfl rfl ?_; intro h H) | (refine Hp.st H 3 rfl rfl rfl rfl rfl ?_; intro h H) | (refine Hp.st H 4 rfl rfl rfl rfl rfl ?_; intro h H) | (refine Hp.st H 5 rfl rfl rfl rfl rfl ?_; intro h H) | (intro b h N; replace H := Hp.new H N; clear N) | refine Drawn.mk (by kernel_rfl) ?_ | refine FillK.row rfl ?_ | refine FillK.lit rfl ?_ | refine WrapK.i64 (by omega) (by omega) ?_ | refine WrapK.u64 (by omega) (by omega) ?_ | refine WrapK.u32 (by omega) (by omega) ?_ | refine WrapK.u8 (by omega) (by omega) ?_ | refine iteT (by omega) ?_ | refine iteF (by omega) ?_ | refine iteET (by omega) ?_ | refine iteEF (by omega) ?_ | refine iteNT (by omega) ?_ | refine iteNF (by omega) ?_); conv => whnf)
  have HH : Hp h0 h10 (Res.ob b3 (.cells ([.int .i64 vid] : List Value).toArray 3 (0, 0)) :: Res.ob b2 (.cells ([.int .i64 port] : List Value).toArray 3 (0, 0)) :: Res.ob b1 (.cells (brg g gF (.slice A sts.length c)).toArray 31 (0, 0)) ::
    Res.ob _ (.cells (wayC vid pcp (.slice none 0 0) 0).toArray 38 (0, 0)) :: Res.ob _ (.cells (wayC 0 0 (.slice none 0 0) 0).toArray 38 (0, 0)) :: Res.ob _ (.cells F.cells.toArray 41 (0, 0)) :: Res.ob _ (.cells (brg g gF (.slice A sts.length c)).toArray 31 (0, 0)) ::
    Res.vt g s0 s1 s2 s3 ps T :: Res.ft gF s' E1 room age lost1 :: Res.own (.slice A sts.length c) 3 1 sts.length (sts.flatMap rI) :: rs) := H
  clear H H6 H10 hst
  have hwb : b < h10.size := lt_of_get (HH.get 3 rfl)
  have n1 : b1 ≠ b := Hp.diff HH 2 3 rfl rfl (by decide)
  have n2 : b2 ≠ b := Hp.diff HH 1 3 rfl rfl (by decide)
  have n3 : b3 ≠ b := Hp.diff HH 0 3 rfl rfl (by decide)
  refine ⟨⟨41, b, _, (fun ys => ys = outP T sts port vid ps.length), ps.length, (fun xs h1 => ∃ sv, h1[b]? = some (.cells (wayC vid pcp sv 0).toArray 38 (0, 0)) ∧ OwnS h10.size h1 3 1 sv xs.length (xs.flatMap rI)), rfl, EW_ok.fn _ (by decide) (by decide), ?_, ?_, ?_, ?_, ?_⟩⟩
  · rintro w rfl
    exact others_stops 1 (by decide) b b1 b2 b3 port vid w n1 n2 n3 (fun W hW => brv_at 3 7 9 HH rfl rfl rfl ⟨hW.size, fun k hk hn => hW.block k hk hn⟩) hl hsm (HH.get 2 rfl) (HH.get 1 rfl) (HH.get 0 rfl) (by omega)
  · rintro xs h1 h2 ⟨sv, q1, q2⟩ hle hk
    refine ⟨sv, hk _ _ q1 (.inl hwb), ?_⟩
    obtain ⟨e1, e2 | ⟨bb, cap, r, rfl, hD, hg, hl⟩⟩ := q2
    · exact ⟨e1, .inl e2⟩
    · exact ⟨e1, .inr ⟨bb, cap, r, rfl, hD, hk _ _ hg (.inr rfl), hl⟩⟩
  · exact ⟨_, HH.get 3 rfl, rfl, .inl ⟨0, rfl, rfl, rfl⟩⟩
  · rintro pre x h1 ⟨sv, q1, q2⟩ hk hlen
    obtain ⟨A2, c2, rfl⟩ := own_shape q2
    conv => whnf
    refine LdK.lit q1 rfl ?_
    conv => whnf
    refine FillK.row rfl ?_
    conv => whnf
    intro b4 h2 N
    conv => whnf
    have q3 : OwnS h10.size h2 3 1 _ pre.length (pre.flatMap rI) := q2.keep N.keep (fun _ _ f => f)
    refine OwnS.append EW_ok (z := i64T) (ys := rI x) (m := 1) rfl rfl rfl rfl rfl rfl (fun k h => by cases h) q3 (Row.of_cells N.get (p := []) (q := []) rfl rfl) rfl (fun e => by cases e) rfl (by have := hk.size; have := N.size; omega) (by show _ * 8 ≤ _; omega) (by decide) (by decide) ?_
    intro v' h3 o3 kk jj
    obtain ⟨A3, c3, rfl⟩ := own_shape o3
    have nb : ¬ blkOf (.slice A2 pre.length c2) b := fun e => by
      have := q2.own e
      omega
    have g3 : h3[b]? = some (.cells (wayC vid pcp (.slice A2 pre.length c2) 0).toArray 38 (0, 0)) := kk.get (N.got q1) nb
    conv => whnf
    refine StK.lit g3 rfl rfl rfl rfl ?_
    intro h4 hu
    conv => whnf
    have key : ∀ k, k < h1.size → k ≠ b → ¬ blkOf (.slice A2 pre.length c2) k → h4[k]? = h1[k]? := fun k hk1 hk2 hk3 =>
      (hu.old k hk2).trans ((kk.old k (by rw [N.size]; omega) hk3).trans (N.old k hk1))
    refine ⟨⟨?_, ?_, ?_⟩, _, hu.get, ?_⟩
    · have := kk.size
      have := N.size
      have := hu.size
      omega
    · intro k o ho hoc
      refine (key k (lt_of_get ho) (fun e => ?_) fun e => ?_).trans ho
      · subst e
        rw [q1] at ho
        injection ho with ho
        subst ho
        cases hoc
      · obtain ⟨_, ⟨_, e2, _⟩ | ⟨bb, cap, r, e2, hD, hg, hl⟩⟩ := q2
        · injection e2 with e2
          subst e2
          exact e.elim
        · injection e2 with e2
          subst e2
          have e : k = bb := e
          subst e
          rw [hg] at ho
          injection ho with ho
          subst ho
          cases hoc
    · intro k hk1 hk2
      refine key k (Nat.lt_of_lt_of_le hk1 hk.size) hk2 fun e => ?_
      have := q2.own e
      omega
    · have e1 : (pre ++ [x]).length = pre.length + 1 := by simp
      have e2 : (pre ++ [x]).flatMap rI = pre.flatMap rI ++ rI x := by simp
      rw [e1, e2]
      refine o3.keep hu.keep fun k e1 e2 => ?_
      have := o3.own e1
      omega
  · rintro D xs h1 hD rfl ⟨sv, q1, q2⟩ hk hdef
    rw [hL] at q2
    have H := Hp.rng HH 3 rfl hk q1 q2 hD hdef
    clear HH
    obtain ⟨A2, c2, rfl⟩ := own_shape q2
    have hlen : 0 < L.length := List.length_pos_iff.2 hne
    conv => whnf
    repeat ((first | refine Hp.ld H 5 rfl rfl ?_ | (refine Hp.st H 6 rfl rfl rfl rfl rfl ?_; intro h H) | refine iteT (by omega) ?_ | refine iteF (by omega) ?_ | refine iteET (by omega) ?_ | refine iteEF (by omega) ?_ | refine iteNT (by omega) ?_ | refine iteNF (by omega) ?_ | refine WrapK.i64 (by omega) (by omega) ?_ | refine Drawn.mk (by kernel_rfl) ?_); conv => whnf)
    refine ⟨H.get 0 rfl, fun h' hu => ?_⟩
    replace H := H.put 0 rfl hu
    conv => whnf
    repeat ((first | refine Hp.ld H 6 rfl rfl ?_ | refine iteT (by omega) ?_ | refine iteF (by omega) ?_ | refine iteET (by omega) ?_ | refine iteEF (by omega) ?_ | refine iteNT (by omega) ?_ | refine iteNF (by omega) ?_ | refine WrapK.i64 (by omega) (by omega) ?_ | refine Drawn.mk (by kernel_rfl) ?_); conv => whnf)
    exact ⟨_, _, rfl, ((((((((H.drop 0).drop 1).drop 1).drop 1).drop 1).drop 1).drop 1).drop 1)⟩

end Go.Proofs.Ytcjilkemfmhkgaa
