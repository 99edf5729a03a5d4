import Derived.Test.YtcjilkemfmhkgaaRelayIt
namespace Go.Proofs.Ytcjilkemfmhkgaa
open Go.Vc
set_option maxRecDepth 10000
set_option maxHeartbeats 4000000

/-! ### relay: known; what a loop's rounds leave -/

theorem Hp.plus {h0 h : Heap} {rs : List Res} (H : Hp h0 h rs) {q : Res} (ha : q.at_ h) (hb : ∀ k, q.blk k → h0.size ≤ k) (hd : ∀ r ∈ rs, ∀ k, q.blk k → ¬ r.blk k) : Hp h0 h (q :: rs) :=
  ⟨H.keep, fun p hp => by
    rcases List.mem_cons.1 hp with rfl | hp
    · exact ⟨ha, hb⟩
    · exact H.each p hp, List.pairwise_cons.2 ⟨hd, H.apart⟩⟩

theorem Hp.first {h0 h : Heap} {r : Res} {rs : List Res} (H : Hp h0 h (r :: rs)) : Hp h0 h [r] := H.sub ⟨rs, List.Perm.refl _⟩

/-- Behind a loop that writes to one block t, and to a slice of its own. -/
theorem Hp.rng {h0 h h1 : Heap} {rs : List Res} (H : Hp h0 h rs) (i : Nat) {t : Nat} {o o' : Obj} (hn : nth rs i = some (Res.ob t o)) (k : Keep (fun k => k = t) h h1) (ht : h1[t]? = some o') {sv : Value} {e s n : Nat} {xs : List Value}
    (own : OwnS h.size h1 e s sv n xs) {D : Nat} (hD : h.size ≤ D) (hd : h1[D]? = some (.deferred (some []))) : Hp h0 h1 (Res.ob D (.deferred (some [])) :: Res.own sv e s n xs :: setN rs i (Res.ob t o')) := by
  have ht0 : t < h.size := lt_of_get (H.get i hn)
  have hs := H.keep.size
  have old : ∀ r ∈ setN rs i (Res.ob t o'), ∀ j, r.blk j → j < h.size := by
    intro r hr j hj
    rcases mem_setN hr with rfl | hr
    · have e : j = t := hj
      omega
    · exact r.lt (H.each r hr).1 hj
  have H1 : Hp h0 h1 (setN rs i (Res.ob t o')) := H.change i hn k ht fun _ e => .inl e
  have H2 : Hp h0 h1 (Res.own sv e s n xs :: setN rs i (Res.ob t o')) := Hp.plus H1 own.zero (fun j hj => by have := own.own hj; omega) fun r hr j hj hr2 => by
    have := own.own hj
    have := old r hr j hr2
    omega
  refine Hp.plus H2 hd (fun j hj => by have e : j = D := hj; omega) fun r hr j hj hr2 => ?_
  have e : j = D := hj
  subst e
  rcases List.mem_cons.1 hr with rfl | hr
  · obtain ⟨_, ⟨c0, rfl, _, _⟩ | ⟨b, cap, r, rfl, hb, hg, _⟩⟩ := own
    · exact hr2.elim
    · have e : j = b := hr2
      subst e
      rw [hd] at hg
      cases hg
  · have := old r hr j hr2
    omega

theorem nth_apart : ∀ {rs : List Res} {i j : Nat} {p q : Res}, rs.Pairwise (fun p q => ∀ k, p.blk k → ¬ q.blk k) → nth rs i = some p → nth rs j = some q → i < j → ∀ k, p.blk k → ¬ q.blk k
  | [], _, _, _, _, _, h, _, _ => by simp [nth] at h
  | x :: r, 0, j + 1, p, q, hp, h1, h2, _ => by
    simp only [nth, Option.some.injEq] at h1
    subst h1
    exact (List.pairwise_cons.1 hp).1 _ (nth_mem h2)
  | x :: r, i + 1, j + 1, p, q, hp, h1, h2, h3 => nth_apart (List.pairwise_cons.1 hp).2 h1 h2 (by omega)

theorem Hp.diff {h0 h : Heap} {rs : List Res} (H : Hp h0 h rs) (i j : Nat) {b c : Nat} {o p : Obj} (h1 : nth rs i = some (Res.ob b o)) (h2 : nth rs j = some (Res.ob c p)) (h : i < j) : b ≠ c := fun e => nth_apart H.apart h1 h2 h b rfl e

theorem brv_at {h0 h h1 : Heap} {g gF : Nat} {sS s0 s1 s2 s3 : Value} {ps : List VPort} {T : List VRow} {sts : List Int} {rs : List Res} {t : Nat} {o : Obj} (i j k : Nat)
    (H : Hp h0 h rs) (hi : nth rs i = some (Res.ob t o)) (hj : nth (setN rs i Res.emp) j = some (Res.vt g s0 s1 s2 s3 ps T)) (hk : nth (setN rs i Res.emp) k = some (Res.own sS 3 1 sts.length (sts.flatMap rI))) (kk : Keep (fun k => k = t) h h1) : BrV h1 g gF sS s0 s1 s2 s3 ps T sts := by
  have H1 : Hp h0 h1 (setN rs i Res.emp) := H.change i hi kk trivial fun _ e => e.elim
  exact ⟨vt_view (i := j) H1 hj, RowsV.of_own (H1.get k hk) (fun _ => rfl) (by decide)⟩

theorem brv_of {h0 h : Heap} {g gF : Nat} {sS s0 s1 s2 s3 : Value} {ps : List VPort} {T : List VRow} {sts : List Int} {rs : List Res} (i j : Nat)
    (H : Hp h0 h rs) (hi : nth rs i = some (Res.vt g s0 s1 s2 s3 ps T)) (hj : nth rs j = some (Res.own sS 3 1 sts.length (sts.flatMap rI))) : BrV h g gF sS s0 s1 s2 s3 ps T sts :=
  ⟨vt_view (i := i) H hi, RowsV.of_own (H.get j hj) (fun _ => rfl) (by decide)⟩

def wayC (v p : Int) (sv : Value) (r : Int) : List Value := [.int .i64 v, .int .i64 p, sv, .int .i64 r]

theorem known_call {g gF : Nat} {sS s0 s1 s2 s3 : Value} {ps : List VPort} {T : List VRow} {sts : List Int} (h0 : Heap) (v pc p to : Int) (hb : BrV h0 g gF sS s0 s1 s2 s3 ps T sts) (hl : T.length ≤ 9223372036854775807) (hsm : SmallT T) (hne : to ≠ p) (ho : opnR T sts v to = true) :
    CallK Try.prog 24 #[.agg (brg g gF sS).toArray, .agg (wayC v pc (.slice none 0 0) 0).toArray, .int .i64 p, .int .i64 to] h0 fun w h' => ∃ b, w = .agg (wayC v pc (.slice (some ⟨b, 0, none⟩) 1 1) 0).toArray ∧ Hp h0 h' [Res.own (.slice (some ⟨b, 0, none⟩) 1 1) 3 1 1 (rI to)] := by
  obtain ⟨A, c, rfl, hc, _⟩ := hb.st.out
  refine CallK.of_vc EW_ok [0, 1, 2, 3, 4, 5, 8, 12, 17] Try.func24 rfl (Nat.le_of_ble_eq_true rfl) ?_
  have H := Hp.start h0
  conv => whnf
  repeat ((first | refine cnd_intro (by first | (simp; done) | (simp; omega) | omega | (simp only [Bool.and_eq_true, decide_eq_true_eq]; omega)) ?_ | refine Hp.ld H 0 rfl rfl ?_ | refine Hp.ld H 1 rfl rfl ?_ | refine Hp.ld H 2 rfl rfl ?_ | refine Hp.ld H 3 rfl rfl ?_ | refine Hp.ld H 4 rfl rfl ?_ | refine Hp.ld H 5 rfl rfl ?_ | (refine Hp.st H 0 rfl rfl rfl rfl rfl ?_; intro h H) | (refine Hp.st H 1 rfl rfl rfl rfl rfl ?_; intro h H) | (refine Hp.st H 2 rfl rfl rfl rfl rfl ?_; intro h H) | (refine Hp.st H 3 rfl rfl rfl rfl rfl ?_; intro h H) | (refine Hp.st H 4 rfl rfl rfl rfl rfl ?_; intro h H) | (refine Hp.st H 5 rfl rfl rfl rfl rfl ?_; intro h H) | (intro b h N; replace H := Hp.new H N; clear N) | refine Drawn.mk (by kernel_rfl) ?_ | refine FillK.row rfl ?_ | refine FillK.lit rfl ?_ | refine WrapK.i64 (by omega) (by omega) ?_ | refine WrapK.u64 (by omega) (by omega) ?_ | refine WrapK.u32 (by omega) (by omega) ?_ | refine WrapK.u8 (by omega) (by omega) ?_ | refine iteT (by omega) ?_ | refine iteF (by omega) ?_ | refine iteET (by omega) ?_ | refine iteEF (by omega) ?_ | refine iteNT (by omega) ?_ | refine iteNF (by omega) ?_); conv => whnf)
  refine CallK.mono (open_call _ v to (hb.keep H.keep) hl hsm) ?_
  rintro w h2 ⟨k2, ew⟩
  replace H := H.and k2
  clear k2
  rw [ho] at ew
  subst ew
  conv => whnf
  repeat ((first | refine cnd_intro (by first | (simp; done) | (simp; omega) | omega | (simp only [Bool.and_eq_true, decide_eq_true_eq]; omega)) ?_ | refine Hp.ld H 0 rfl rfl ?_ | refine Hp.ld H 1 rfl rfl ?_ | refine Hp.ld H 2 rfl rfl ?_ | refine Hp.ld H 3 rfl rfl ?_ | refine Hp.ld H 4 rfl rfl ?_ | refine Hp.ld H 5 rfl rfl ?_ | (refine Hp.st H 0 rfl rfl rfl rfl rfl ?_; intro h H) | (refine Hp.st H 1 rfl rfl rfl rfl rfl ?_; intro h H) | (refine Hp.st H 2 rfl rfl rfl rfl rfl ?_; intro h H) | (refine Hp.st H 3 rfl rfl rfl rfl rfl ?_; intro h H) | (refine Hp.st H 4 rfl rfl rfl rfl rfl ?_; intro h H) | (refine Hp.st H 5 rfl rfl rfl rfl rfl ?_; intro h H) | (intro b h N; replace H := Hp.new H N; clear N) | refine Drawn.mk (by kernel_rfl) ?_ | refine FillK.row rfl ?_ | refine FillK.lit rfl ?_ | refine WrapK.i64 (by omega) (by omega) ?_ | refine WrapK.u64 (by omega) (by omega) ?_ | refine WrapK.u32 (by omega) (by omega) ?_ | refine WrapK.u8 (by omega) (by omega) ?_ | refine iteT (by omega) ?_ | refine iteF (by omega) ?_ | refine iteET (by omega) ?_ | refine iteEF (by omega) ?_ | refine iteNT (by omega) ?_ | refine iteNF (by omega) ?_); conv => whnf)
  exact ⟨_, rfl, Hp.first (H.whole 0 rfl rfl)⟩

theorem same_call {g gF : Nat} {sS : Value} (h0 : Heap) (v pc p : Int) (hss : ∃ A n c, sS = .slice A n c) :
    CallK Try.prog 24 #[.agg (brg g gF sS).toArray, .agg (wayC v pc (.slice none 0 0) 0).toArray, .int .i64 p, .int .i64 p] h0 fun w h' => Keep (fun _ => False) h0 h' ∧ w = .agg (wayC v pc (.slice none 0 0) 5).toArray := by
  obtain ⟨A, n, c, rfl⟩ := hss
  refine CallK.of_vc EW_ok [0, 1, 2, 3, 4, 5, 8, 12, 17] Try.func24 rfl (Nat.le_of_ble_eq_true rfl) ?_
  have H := Hp.start h0
  conv => whnf
  repeat ((first | refine cnd_intro (by first | (simp; done) | (simp; omega) | omega | (simp only [Bool.and_eq_true, decide_eq_true_eq]; omega)) ?_ | refine Hp.ld H 0 rfl rfl ?_ | refine Hp.ld H 1 rfl rfl ?_ | refine Hp.ld H 2 rfl rfl ?_ | refine Hp.ld H 3 rfl rfl ?_ | refine Hp.ld H 4 rfl rfl ?_ | refine Hp.ld H 5 rfl rfl ?_ | (refine Hp.st H 0 rfl rfl rfl rfl rfl ?_; intro h H) | (refine Hp.st H 1 rfl rfl rfl rfl rfl ?_; intro h H) | (refine Hp.st H 2 rfl rfl rfl rfl rfl ?_; intro h H) | (refine Hp.st H 3 rfl rfl rfl rfl rfl ?_; intro h H) | (refine Hp.st H 4 rfl rfl rfl rfl rfl ?_; intro h H) | (refine Hp.st H 5 rfl rfl rfl rfl rfl ?_; intro h H) | (intro b h N; replace H := Hp.new H N; clear N) | refine Drawn.mk (by kernel_rfl) ?_ | refine FillK.row rfl ?_ | refine FillK.lit rfl ?_ | refine WrapK.i64 (by omega) (by omega) ?_ | refine WrapK.u64 (by omega) (by omega) ?_ | refine WrapK.u32 (by omega) (by omega) ?_ | refine WrapK.u8 (by omega) (by omega) ?_ | refine iteT (by omega) ?_ | refine iteF (by omega) ?_ | refine iteET (by omega) ?_ | refine iteEF (by omega) ?_ | refine iteNT (by omega) ?_ | refine iteNF (by omega) ?_); conv => whnf)
  exact ⟨H.keep, rfl⟩

end Go.Proofs.Ytcjilkemfmhkgaa
