import Derived.Test.YtcjilkemfmhkgaaDress
namespace Go.Proofs.Ytcjilkemfmhkgaa
open Go.Vc
set_option maxRecDepth 100000
set_option maxHeartbeats 4000000

theorem arg_fours {h : Heap} {v : Value} (a : Arg EE h 44 v) : ∃ f0 f1 f2 f3 : Int, v = .agg #[.int .i64 f0, .int .i64 f1, .int .i64 f2, .int .i64 f3] := by
  obtain ⟨q0, q1, q2, q3, e, _⟩ := arg_int4 a
  exact ⟨q0, q1, q2, q3, e⟩

theorem good_T1' : GoodT [⟨1, 15, 15⟩] := ⟨by decide, by
  intro x hx
  rcases List.mem_singleton.1 hx with rfl
  decide, List.pairwise_singleton _ _⟩

theorem sixteen {pl : Int} (h1 : ¬ pl < 0) (h2 : ¬ pl > 15) : bAnd .i64 pl 15 = pl := by
  have : pl = 0 ∨ pl = 1 ∨ pl = 2 ∨ pl = 3 ∨ pl = 4 ∨ pl = 5 ∨ pl = 6 ∨ pl = 7 ∨ pl = 8 ∨ pl = 9 ∨ pl = 10 ∨ pl = 11 ∨ pl = 12 ∨ pl = 13 ∨ pl = 14 ∨ pl = 15 := by omega
  rcases this with rfl | rfl | rfl | rfl | rfl | rfl | rfl | rfl | rfl | rfl | rfl | rfl | rfl | rfl | rfl | rfl <;> rfl

theorem d_set {vid pl : Int} (h1 : ¬ pl < 0) (h2 : ¬ pl > 15) (h3 : ¬ vid < 1) (h4 : ¬ vid > 4094) : ∃ T', setF 4 vid 15 pl [⟨1, 15, 15⟩] = (0, T') ∧ plainT vid T' = pl ∧ T'.length ≤ 9223372036854775807 := by
  have ok : okSet 4 vid 15 pl := ⟨by omega, by omega, by decide, by omega, sixteen h1 h2⟩
  by_cases hv : vid = 1
  · subst hv
    exact ⟨[⟨1, 15, pl⟩], by unfold setF; rw [if_pos ok]; rfl, rfl, by show 1 ≤ _; decide⟩
  · have hv' : ¬ 1 = vid := fun e => hv e.symm
    refine ⟨[⟨1, 15, 15⟩, ⟨vid, 15, pl⟩], ?_, ?_, by show 2 ≤ _; decide⟩
    · unfold setF
      rw [if_pos ok, if_neg (by decide), if_neg (by simp [VRow.isV, hv']), if_neg (by show ¬ 1 = 64; decide)]
      rfl
    · simp [plainT, VRow.isV, hv', List.find?_cons]

theorem law_RelayDress (v0 v1 v2 : Value) (h0 : Heap) (a0 : Arg EE h0 41 v0) (a1 : Arg EE h0 43 v1) (a2 : Arg EE h0 44 v2) :
    CallK Try.prog 5 #[v0, v1, v2] h0 fun v h' => v = .bool true ∧ Keep (fun _ => False) h0 h' := by
  obtain ⟨F, rfl, hF⟩ := arg_hdr a0
  obtain ⟨D, hD, hD1⟩ := arg_bytes a1
  obtain ⟨pa, ca, rfl, hca, _, hA0⟩ := hD.out
  obtain ⟨vid, pcp, port, pl, rfl⟩ := arg_fours a2
  refine CallK.of_vc EW_ok [0, 1, 2, 3, 5, 6, 7, 8, 9, 10, 11, 12, 14, 15, 16, 17, 18, 20, 35, 73, 81, 147, 152] Try.func5 rfl (Nat.le_of_ble_eq_true rfl) ?_
  have H := Hp.start h0
  conv => whnf
  repeat ((first | refine cnd_intro (by first | (simp; done) | (simp; omega) | omega | (simp only [Bool.and_eq_true, decide_eq_true_eq]; omega)) ?_ | refine Hp.ld H 0 rfl rfl ?_ | refine Hp.ld H 1 rfl rfl ?_ | refine Hp.ld H 2 rfl rfl ?_ | refine Hp.ld H 3 rfl rfl ?_ | refine Hp.ld H 4 rfl rfl ?_ | refine Hp.ld H 5 rfl rfl ?_ | (refine Hp.st H 0 rfl rfl rfl rfl rfl ?_; intro h H) | (refine Hp.st H 1 rfl rfl rfl rfl rfl ?_; intro h H) | (refine Hp.st H 2 rfl rfl rfl rfl rfl ?_; intro h H) | (refine Hp.st H 3 rfl rfl rfl rfl rfl ?_; intro h H) | (refine Hp.st H 4 rfl rfl rfl rfl rfl ?_; intro h H) | (refine Hp.st H 5 rfl rfl rfl rfl rfl ?_; intro h H) | (intro b h N; replace H := Hp.new H N; clear N) | refine Drawn.mk (by kernel_rfl) ?_ | refine FillK.row rfl ?_ | refine FillK.lit rfl ?_ | refine WrapK.i64 (by omega) (by omega) ?_ | refine WrapK.u64 (by omega) (by omega) ?_ | refine WrapK.u32 (by omega) (by omega) ?_ | refine WrapK.u8 (by omega) (by omega) ?_ | refine iteT (by omega) ?_ | refine iteF (by omega) ?_ | refine iteET (by omega) ?_ | refine iteEF (by omega) ?_ | refine iteNT (by omega) ?_ | refine iteNF (by omega) ?_); conv => whnf)
  refine CallK.mono (ways_call _) ?_
  rintro _ h1 ⟨k1, rfl⟩
  replace H := H.and k1
  clear k1
  by_cases c1 : D.length > 1600
  · conv => whnf
    repeat ((first | refine cnd_intro (by first | (simp; done) | (simp; omega) | omega | (simp only [Bool.and_eq_true, decide_eq_true_eq]; omega)) ?_ | refine Hp.ld H 0 rfl rfl ?_ | refine Hp.ld H 1 rfl rfl ?_ | refine Hp.ld H 2 rfl rfl ?_ | refine Hp.ld H 3 rfl rfl ?_ | refine Hp.ld H 4 rfl rfl ?_ | refine Hp.ld H 5 rfl rfl ?_ | (refine Hp.st H 0 rfl rfl rfl rfl rfl ?_; intro h H) | (refine Hp.st H 1 rfl rfl rfl rfl rfl ?_; intro h H) | (refine Hp.st H 2 rfl rfl rfl rfl rfl ?_; intro h H) | (refine Hp.st H 3 rfl rfl rfl rfl rfl ?_; intro h H) | (refine Hp.st H 4 rfl rfl rfl rfl rfl ?_; intro h H) | (refine Hp.st H 5 rfl rfl rfl rfl rfl ?_; intro h H) | (intro b h N; replace H := Hp.new H N; clear N) | refine Drawn.mk (by kernel_rfl) ?_ | refine FillK.row rfl ?_ | refine FillK.lit rfl ?_ | refine WrapK.i64 (by omega) (by omega) ?_ | refine WrapK.u64 (by omega) (by omega) ?_ | refine WrapK.u32 (by omega) (by omega) ?_ | refine WrapK.u8 (by omega) (by omega) ?_ | refine iteT (by omega) ?_ | refine iteF (by omega) ?_ | refine iteET (by omega) ?_ | refine iteEF (by omega) ?_ | refine iteNT (by omega) ?_ | refine iteNF (by omega) ?_); conv => whnf)
    exact ⟨rfl, H.keep⟩
  conv => whnf
  repeat ((first | refine cnd_intro (by first | (simp; done) | (simp; omega) | omega | (simp only [Bool.and_eq_true, decide_eq_true_eq]; omega)) ?_ | refine Hp.ld H 0 rfl rfl ?_ | refine Hp.ld H 1 rfl rfl ?_ | refine Hp.ld H 2 rfl rfl ?_ | refine Hp.ld H 3 rfl rfl ?_ | refine Hp.ld H 4 rfl rfl ?_ | refine Hp.ld H 5 rfl rfl ?_ | (refine Hp.st H 0 rfl rfl rfl rfl rfl ?_; intro h H) | (refine Hp.st H 1 rfl rfl rfl rfl rfl ?_; intro h H) | (refine Hp.st H 2 rfl rfl rfl rfl rfl ?_; intro h H) | (refine Hp.st H 3 rfl rfl rfl rfl rfl ?_; intro h H) | (refine Hp.st H 4 rfl rfl rfl rfl rfl ?_; intro h H) | (refine Hp.st H 5 rfl rfl rfl rfl rfl ?_; intro h H) | (intro b h N; replace H := Hp.new H N; clear N) | refine Drawn.mk (by kernel_rfl) ?_ | refine FillK.row rfl ?_ | refine FillK.lit rfl ?_ | refine WrapK.i64 (by omega) (by omega) ?_ | refine WrapK.u64 (by omega) (by omega) ?_ | refine WrapK.u32 (by omega) (by omega) ?_ | refine WrapK.u8 (by omega) (by omega) ?_ | refine iteT (by omega) ?_ | refine iteF (by omega) ?_ | refine iteET (by omega) ?_ | refine iteEF (by omega) ?_ | refine iteNT (by omega) ?_ | refine iteNF (by omega) ?_); conv => whnf)
  refine CallK.mono (check_call _ F D.length) ?_
  rintro _ h2 ⟨k2, rfl⟩
  replace H := H.and k2
  by_cases hck : F.check D.length = 0
  case neg =>
    conv => whnf
    refine iteNT (by omega) ?_
    conv => whnf
    repeat ((first | refine cnd_intro (by first | (simp; done) | (simp; omega) | omega | (simp only [Bool.and_eq_true, decide_eq_true_eq]; omega)) ?_ | refine Hp.ld H 0 rfl rfl ?_ | refine Hp.ld H 1 rfl rfl ?_ | refine Hp.ld H 2 rfl rfl ?_ | refine Hp.ld H 3 rfl rfl ?_ | refine Hp.ld H 4 rfl rfl ?_ | refine Hp.ld H 5 rfl rfl ?_ | (refine Hp.st H 0 rfl rfl rfl rfl rfl ?_; intro h H) | (refine Hp.st H 1 rfl rfl rfl rfl rfl ?_; intro h H) | (refine Hp.st H 2 rfl rfl rfl rfl rfl ?_; intro h H) | (refine Hp.st H 3 rfl rfl rfl rfl rfl ?_; intro h H) | (refine Hp.st H 4 rfl rfl rfl rfl rfl ?_; intro h H) | (refine Hp.st H 5 rfl rfl rfl rfl rfl ?_; intro h H) | (intro b h N; replace H := Hp.new H N; clear N) | refine Drawn.mk (by kernel_rfl) ?_ | refine FillK.row rfl ?_ | refine FillK.lit rfl ?_ | refine WrapK.i64 (by omega) (by omega) ?_ | refine WrapK.u64 (by omega) (by omega) ?_ | refine WrapK.u32 (by omega) (by omega) ?_ | refine WrapK.u8 (by omega) (by omega) ?_ | refine iteT (by omega) ?_ | refine iteF (by omega) ?_ | refine iteET (by omega) ?_ | refine iteEF (by omega) ?_ | refine iteNT (by omega) ?_ | refine iteNF (by omega) ?_); conv => whnf)
    exact ⟨rfl, H.keep⟩
  obtain ⟨_, hn, _⟩ := check_ok hck
  have hgood := good_ok hck
  have hfits := fits_ok hck
  have hDl : D.length ≤ 1500 := by omega
  rw [hck]
  by_cases e7 : F.typ = 33024
  · conv => whnf
    repeat ((first | refine cnd_intro (by first | (simp; done) | (simp; omega) | omega | (simp only [Bool.and_eq_true, decide_eq_true_eq]; omega)) ?_ | refine Hp.ld H 0 rfl rfl ?_ | refine Hp.ld H 1 rfl rfl ?_ | refine Hp.ld H 2 rfl rfl ?_ | refine Hp.ld H 3 rfl rfl ?_ | refine Hp.ld H 4 rfl rfl ?_ | refine Hp.ld H 5 rfl rfl ?_ | (refine Hp.st H 0 rfl rfl rfl rfl rfl ?_; intro h H) | (refine Hp.st H 1 rfl rfl rfl rfl rfl ?_; intro h H) | (refine Hp.st H 2 rfl rfl rfl rfl rfl ?_; intro h H) | (refine Hp.st H 3 rfl rfl rfl rfl rfl ?_; intro h H) | (refine Hp.st H 4 rfl rfl rfl rfl rfl ?_; intro h H) | (refine Hp.st H 5 rfl rfl rfl rfl rfl ?_; intro h H) | (intro b h N; replace H := Hp.new H N; clear N) | refine Drawn.mk (by kernel_rfl) ?_ | refine FillK.row rfl ?_ | refine FillK.lit rfl ?_ | refine WrapK.i64 (by omega) (by omega) ?_ | refine WrapK.u64 (by omega) (by omega) ?_ | refine WrapK.u32 (by omega) (by omega) ?_ | refine WrapK.u8 (by omega) (by omega) ?_ | refine iteT (by omega) ?_ | refine iteF (by omega) ?_ | refine iteET (by omega) ?_ | refine iteEF (by omega) ?_ | refine iteNT (by omega) ?_ | refine iteNF (by omega) ?_); conv => whnf)
    exact ⟨rfl, H.keep⟩
  conv => whnf
  repeat ((first | refine cnd_intro (by first | (simp; done) | (simp; omega) | omega | (simp only [Bool.and_eq_true, decide_eq_true_eq]; omega)) ?_ | refine Hp.ld H 0 rfl rfl ?_ | refine Hp.ld H 1 rfl rfl ?_ | refine Hp.ld H 2 rfl rfl ?_ | refine Hp.ld H 3 rfl rfl ?_ | refine Hp.ld H 4 rfl rfl ?_ | refine Hp.ld H 5 rfl rfl ?_ | (refine Hp.st H 0 rfl rfl rfl rfl rfl ?_; intro h H) | (refine Hp.st H 1 rfl rfl rfl rfl rfl ?_; intro h H) | (refine Hp.st H 2 rfl rfl rfl rfl rfl ?_; intro h H) | (refine Hp.st H 3 rfl rfl rfl rfl rfl ?_; intro h H) | (refine Hp.st H 4 rfl rfl rfl rfl rfl ?_; intro h H) | (refine Hp.st H 5 rfl rfl rfl rfl rfl ?_; intro h H) | (intro b h N; replace H := Hp.new H N; clear N) | refine Drawn.mk (by kernel_rfl) ?_ | refine FillK.row rfl ?_ | refine FillK.lit rfl ?_ | refine WrapK.i64 (by omega) (by omega) ?_ | refine WrapK.u64 (by omega) (by omega) ?_ | refine WrapK.u32 (by omega) (by omega) ?_ | refine WrapK.u8 (by omega) (by omega) ?_ | refine iteT (by omega) ?_ | refine iteF (by omega) ?_ | refine iteET (by omega) ?_ | refine iteEF (by omega) ?_ | refine iteNT (by omega) ?_ | refine iteNF (by omega) ?_); conv => whnf)
  by_cases e1 : vid < 1
  · conv => whnf
    repeat ((first | refine cnd_intro (by first | (simp; done) | (simp; omega) | omega | (simp only [Bool.and_eq_true, decide_eq_true_eq]; omega)) ?_ | refine Hp.ld H 0 rfl rfl ?_ | refine Hp.ld H 1 rfl rfl ?_ | refine Hp.ld H 2 rfl rfl ?_ | refine Hp.ld H 3 rfl rfl ?_ | refine Hp.ld H 4 rfl rfl ?_ | refine Hp.ld H 5 rfl rfl ?_ | (refine Hp.st H 0 rfl rfl rfl rfl rfl ?_; intro h H) | (refine Hp.st H 1 rfl rfl rfl rfl rfl ?_; intro h H) | (refine Hp.st H 2 rfl rfl rfl rfl rfl ?_; intro h H) | (refine Hp.st H 3 rfl rfl rfl rfl rfl ?_; intro h H) | (refine Hp.st H 4 rfl rfl rfl rfl rfl ?_; intro h H) | (refine Hp.st H 5 rfl rfl rfl rfl rfl ?_; intro h H) | (intro b h N; replace H := Hp.new H N; clear N) | refine Drawn.mk (by kernel_rfl) ?_ | refine FillK.row rfl ?_ | refine FillK.lit rfl ?_ | refine WrapK.i64 (by omega) (by omega) ?_ | refine WrapK.u64 (by omega) (by omega) ?_ | refine WrapK.u32 (by omega) (by omega) ?_ | refine WrapK.u8 (by omega) (by omega) ?_ | refine iteT (by omega) ?_ | refine iteF (by omega) ?_ | refine iteET (by omega) ?_ | refine iteEF (by omega) ?_ | refine iteNT (by omega) ?_ | refine iteNF (by omega) ?_); conv => whnf)
    exact ⟨rfl, H.keep⟩
  by_cases e2 : vid > 4094
  · conv => whnf
    repeat ((first | refine cnd_intro (by first | (simp; done) | (simp; omega) | omega | (simp only [Bool.and_eq_true, decide_eq_true_eq]; omega)) ?_ | refine Hp.ld H 0 rfl rfl ?_ | refine Hp.ld H 1 rfl rfl ?_ | refine Hp.ld H 2 rfl rfl ?_ | refine Hp.ld H 3 rfl rfl ?_ | refine Hp.ld H 4 rfl rfl ?_ | refine Hp.ld H 5 rfl rfl ?_ | (refine Hp.st H 0 rfl rfl rfl rfl rfl ?_; intro h H) | (refine Hp.st H 1 rfl rfl rfl rfl rfl ?_; intro h H) | (refine Hp.st H 2 rfl rfl rfl rfl rfl ?_; intro h H) | (refine Hp.st H 3 rfl rfl rfl rfl rfl ?_; intro h H) | (refine Hp.st H 4 rfl rfl rfl rfl rfl ?_; intro h H) | (refine Hp.st H 5 rfl rfl rfl rfl rfl ?_; intro h H) | (intro b h N; replace H := Hp.new H N; clear N) | refine Drawn.mk (by kernel_rfl) ?_ | refine FillK.row rfl ?_ | refine FillK.lit rfl ?_ | refine WrapK.i64 (by omega) (by omega) ?_ | refine WrapK.u64 (by omega) (by omega) ?_ | refine WrapK.u32 (by omega) (by omega) ?_ | refine WrapK.u8 (by omega) (by omega) ?_ | refine iteT (by omega) ?_ | refine iteF (by omega) ?_ | refine iteET (by omega) ?_ | refine iteEF (by omega) ?_ | refine iteNT (by omega) ?_ | refine iteNF (by omega) ?_); conv => whnf)
    exact ⟨rfl, H.keep⟩
  by_cases e3 : pcp < 0
  · conv => whnf
    repeat ((first | refine cnd_intro (by first | (simp; done) | (simp; omega) | omega | (simp only [Bool.and_eq_true, decide_eq_true_eq]; omega)) ?_ | refine Hp.ld H 0 rfl rfl ?_ | refine Hp.ld H 1 rfl rfl ?_ | refine Hp.ld H 2 rfl rfl ?_ | refine Hp.ld H 3 rfl rfl ?_ | refine Hp.ld H 4 rfl rfl ?_ | refine Hp.ld H 5 rfl rfl ?_ | (refine Hp.st H 0 rfl rfl rfl rfl rfl ?_; intro h H) | (refine Hp.st H 1 rfl rfl rfl rfl rfl ?_; intro h H) | (refine Hp.st H 2 rfl rfl rfl rfl rfl ?_; intro h H) | (refine Hp.st H 3 rfl rfl rfl rfl rfl ?_; intro h H) | (refine Hp.st H 4 rfl rfl rfl rfl rfl ?_; intro h H) | (refine Hp.st H 5 rfl rfl rfl rfl rfl ?_; intro h H) | (intro b h N; replace H := Hp.new H N; clear N) | refine Drawn.mk (by kernel_rfl) ?_ | refine FillK.row rfl ?_ | refine FillK.lit rfl ?_ | refine WrapK.i64 (by omega) (by omega) ?_ | refine WrapK.u64 (by omega) (by omega) ?_ | refine WrapK.u32 (by omega) (by omega) ?_ | refine WrapK.u8 (by omega) (by omega) ?_ | refine iteT (by omega) ?_ | refine iteF (by omega) ?_ | refine iteET (by omega) ?_ | refine iteEF (by omega) ?_ | refine iteNT (by omega) ?_ | refine iteNF (by omega) ?_); conv => whnf)
    exact ⟨rfl, H.keep⟩
  by_cases e4 : pcp > 7
  · conv => whnf
    repeat ((first | refine cnd_intro (by first | (simp; done) | (simp; omega) | omega | (simp only [Bool.and_eq_true, decide_eq_true_eq]; omega)) ?_ | refine Hp.ld H 0 rfl rfl ?_ | refine Hp.ld H 1 rfl rfl ?_ | refine Hp.ld H 2 rfl rfl ?_ | refine Hp.ld H 3 rfl rfl ?_ | refine Hp.ld H 4 rfl rfl ?_ | refine Hp.ld H 5 rfl rfl ?_ | (refine Hp.st H 0 rfl rfl rfl rfl rfl ?_; intro h H) | (refine Hp.st H 1 rfl rfl rfl rfl rfl ?_; intro h H) | (refine Hp.st H 2 rfl rfl rfl rfl rfl ?_; intro h H) | (refine Hp.st H 3 rfl rfl rfl rfl rfl ?_; intro h H) | (refine Hp.st H 4 rfl rfl rfl rfl rfl ?_; intro h H) | (refine Hp.st H 5 rfl rfl rfl rfl rfl ?_; intro h H) | (intro b h N; replace H := Hp.new H N; clear N) | refine Drawn.mk (by kernel_rfl) ?_ | refine FillK.row rfl ?_ | refine FillK.lit rfl ?_ | refine WrapK.i64 (by omega) (by omega) ?_ | refine WrapK.u64 (by omega) (by omega) ?_ | refine WrapK.u32 (by omega) (by omega) ?_ | refine WrapK.u8 (by omega) (by omega) ?_ | refine iteT (by omega) ?_ | refine iteF (by omega) ?_ | refine iteET (by omega) ?_ | refine iteEF (by omega) ?_ | refine iteNT (by omega) ?_ | refine iteNF (by omega) ?_); conv => whnf)
    exact ⟨rfl, H.keep⟩
  by_cases e5 : port < 0
  · conv => whnf
    repeat ((first | refine cnd_intro (by first | (simp; done) | (simp; omega) | omega | (simp only [Bool.and_eq_true, decide_eq_true_eq]; omega)) ?_ | refine Hp.ld H 0 rfl rfl ?_ | refine Hp.ld H 1 rfl rfl ?_ | refine Hp.ld H 2 rfl rfl ?_ | refine Hp.ld H 3 rfl rfl ?_ | refine Hp.ld H 4 rfl rfl ?_ | refine Hp.ld H 5 rfl rfl ?_ | (refine Hp.st H 0 rfl rfl rfl rfl rfl ?_; intro h H) | (refine Hp.st H 1 rfl rfl rfl rfl rfl ?_; intro h H) | (refine Hp.st H 2 rfl rfl rfl rfl rfl ?_; intro h H) | (refine Hp.st H 3 rfl rfl rfl rfl rfl ?_; intro h H) | (refine Hp.st H 4 rfl rfl rfl rfl rfl ?_; intro h H) | (refine Hp.st H 5 rfl rfl rfl rfl rfl ?_; intro h H) | (intro b h N; replace H := Hp.new H N; clear N) | refine Drawn.mk (by kernel_rfl) ?_ | refine FillK.row rfl ?_ | refine FillK.lit rfl ?_ | refine WrapK.i64 (by omega) (by omega) ?_ | refine WrapK.u64 (by omega) (by omega) ?_ | refine WrapK.u32 (by omega) (by omega) ?_ | refine WrapK.u8 (by omega) (by omega) ?_ | refine iteT (by omega) ?_ | refine iteF (by omega) ?_ | refine iteET (by omega) ?_ | refine iteEF (by omega) ?_ | refine iteNT (by omega) ?_ | refine iteNF (by omega) ?_); conv => whnf)
    exact ⟨rfl, H.keep⟩
  by_cases e6 : port > 3
  · conv => whnf
    repeat ((first | refine cnd_intro (by first | (simp; done) | (simp; omega) | omega | (simp only [Bool.and_eq_true, decide_eq_true_eq]; omega)) ?_ | refine Hp.ld H 0 rfl rfl ?_ | refine Hp.ld H 1 rfl rfl ?_ | refine Hp.ld H 2 rfl rfl ?_ | refine Hp.ld H 3 rfl rfl ?_ | refine Hp.ld H 4 rfl rfl ?_ | refine Hp.ld H 5 rfl rfl ?_ | (refine Hp.st H 0 rfl rfl rfl rfl rfl ?_; intro h H) | (refine Hp.st H 1 rfl rfl rfl rfl rfl ?_; intro h H) | (refine Hp.st H 2 rfl rfl rfl rfl rfl ?_; intro h H) | (refine Hp.st H 3 rfl rfl rfl rfl rfl ?_; intro h H) | (refine Hp.st H 4 rfl rfl rfl rfl rfl ?_; intro h H) | (refine Hp.st H 5 rfl rfl rfl rfl rfl ?_; intro h H) | (intro b h N; replace H := Hp.new H N; clear N) | refine Drawn.mk (by kernel_rfl) ?_ | refine FillK.row rfl ?_ | refine FillK.lit rfl ?_ | refine WrapK.i64 (by omega) (by omega) ?_ | refine WrapK.u64 (by omega) (by omega) ?_ | refine WrapK.u32 (by omega) (by omega) ?_ | refine WrapK.u8 (by omega) (by omega) ?_ | refine iteT (by omega) ?_ | refine iteF (by omega) ?_ | refine iteET (by omega) ?_ | refine iteEF (by omega) ?_ | refine iteNT (by omega) ?_ | refine iteNF (by omega) ?_); conv => whnf)
    exact ⟨rfl, H.keep⟩
  by_cases e8 : pl < 0
  · conv => whnf
    repeat ((first | refine cnd_intro (by first | (simp; done) | (simp; omega) | omega | (simp only [Bool.and_eq_true, decide_eq_true_eq]; omega)) ?_ | refine Hp.ld H 0 rfl rfl ?_ | refine Hp.ld H 1 rfl rfl ?_ | refine Hp.ld H 2 rfl rfl ?_ | refine Hp.ld H 3 rfl rfl ?_ | refine Hp.ld H 4 rfl rfl ?_ | refine Hp.ld H 5 rfl rfl ?_ | (refine Hp.st H 0 rfl rfl rfl rfl rfl ?_; intro h H) | (refine Hp.st H 1 rfl rfl rfl rfl rfl ?_; intro h H) | (refine Hp.st H 2 rfl rfl rfl rfl rfl ?_; intro h H) | (refine Hp.st H 3 rfl rfl rfl rfl rfl ?_; intro h H) | (refine Hp.st H 4 rfl rfl rfl rfl rfl ?_; intro h H) | (refine Hp.st H 5 rfl rfl rfl rfl rfl ?_; intro h H) | (intro b h N; replace H := Hp.new H N; clear N) | refine Drawn.mk (by kernel_rfl) ?_ | refine FillK.row rfl ?_ | refine FillK.lit rfl ?_ | refine WrapK.i64 (by omega) (by omega) ?_ | refine WrapK.u64 (by omega) (by omega) ?_ | refine WrapK.u32 (by omega) (by omega) ?_ | refine WrapK.u8 (by omega) (by omega) ?_ | refine iteT (by omega) ?_ | refine iteF (by omega) ?_ | refine iteET (by omega) ?_ | refine iteEF (by omega) ?_ | refine iteNT (by omega) ?_ | refine iteNF (by omega) ?_); conv => whnf)
    exact ⟨rfl, H.keep⟩
  by_cases e9 : pl > 15
  · conv => whnf
    repeat ((first | refine cnd_intro (by first | (simp; done) | (simp; omega) | omega | (simp only [Bool.and_eq_true, decide_eq_true_eq]; omega)) ?_ | refine Hp.ld H 0 rfl rfl ?_ | refine Hp.ld H 1 rfl rfl ?_ | refine Hp.ld H 2 rfl rfl ?_ | refine Hp.ld H 3 rfl rfl ?_ | refine Hp.ld H 4 rfl rfl ?_ | refine Hp.ld H 5 rfl rfl ?_ | (refine Hp.st H 0 rfl rfl rfl rfl rfl ?_; intro h H) | (refine Hp.st H 1 rfl rfl rfl rfl rfl ?_; intro h H) | (refine Hp.st H 2 rfl rfl rfl rfl rfl ?_; intro h H) | (refine Hp.st H 3 rfl rfl rfl rfl rfl ?_; intro h H) | (refine Hp.st H 4 rfl rfl rfl rfl rfl ?_; intro h H) | (refine Hp.st H 5 rfl rfl rfl rfl rfl ?_; intro h H) | (intro b h N; replace H := Hp.new H N; clear N) | refine Drawn.mk (by kernel_rfl) ?_ | refine FillK.row rfl ?_ | refine FillK.lit rfl ?_ | refine WrapK.i64 (by omega) (by omega) ?_ | refine WrapK.u64 (by omega) (by omega) ?_ | refine WrapK.u32 (by omega) (by omega) ?_ | refine WrapK.u8 (by omega) (by omega) ?_ | refine iteT (by omega) ?_ | refine iteF (by omega) ?_ | refine iteET (by omega) ?_ | refine iteEF (by omega) ?_ | refine iteNT (by omega) ?_ | refine iteNF (by omega) ?_); conv => whnf)
    exact ⟨rfl, H.keep⟩
  obtain ⟨n, rfl⟩ : ∃ n : Nat, port = n := ⟨port.toNat, by omega⟩
  conv => whnf
  repeat (first | (refine iteT (by omega) ?_; conv => whnf) | (refine iteF (by omega) ?_; conv => whnf) | (refine iteET (by omega) ?_; conv => whnf) | (refine iteEF (by omega) ?_; conv => whnf) | (refine iteNT (by omega) ?_; conv => whnf) | (refine iteNF (by omega) ?_; conv => whnf) | (refine WrapK.i64 (by omega) (by omega) ?_; conv => whnf) | (refine Hp.ld H 0 rfl rfl ?_; conv => whnf))
  refine FillK.row rfl ?_
  conv => whnf
  intro bs h3 N
  replace H := H.new N
  clear N
  conv => whnf
  refine CallK.mono (bridge_call (sts := [2, 2, 2, 2]) (H.whole 0 rfl rfl)) ?_
  rintro _ h4 ⟨g, gF, s0, s1, s2, s3, rfl, H4⟩
  repeat clear H
  have H : Hp h0 h4 [Res.vt g s0 s1 s2 s3 [p1, p1, p1, p1] [⟨1, 15, 15⟩], Res.ft gF (.slice none 0 0) [] 10 1000 0, Res.own (.slice (some ⟨bs, 0, none⟩) 4 4) 3 1 4 (([2, 2, 2, 2] : List Int).flatMap rI), Res.ob _ (.cells ([.int .i64 vid, .int .i64 pcp, .int .i64 (n : Nat), .int .i64 pl] : List Value).toArray 44 (0, 0)), Res.ob _ (.cells F.cells.toArray 41 (0, 0))] := H4
  clear H4
  conv => whnf
  intro b11 h5 N
  replace H := H.new N
  clear N
  conv => whnf
  repeat ((first | refine Hp.ld H 0 rfl rfl ?_ | (refine Hp.st H 0 rfl rfl rfl rfl rfl ?_; intro h H) | refine iteT (by omega) ?_ | refine iteF (by omega) ?_ | refine iteET (by omega) ?_ | refine iteEF (by omega) ?_ | refine iteNT (by omega) ?_ | refine iteNF (by omega) ?_ | refine WrapK.i64 (by omega) (by omega) ?_ | refine Drawn.mk (by kernel_rfl) ?_); conv => whnf)
  obtain ⟨T', hset, hpt, hT'⟩ := d_set e8 e9 e1 e2
  replace hset : setF [p1, p1, p1, p1].length vid 15 pl [⟨1, 15, 15⟩] = (0, T') := hset
  refine CallK.mono (set_call H 1 g _ _ _ _ _ _ rfl vid 15 pl (by decide) good_T1' (by decide) (by decide) (by omega) (by omega)) ?_
  rintro w h6 ⟨ew, t1, t2, t3, H6⟩
  rw [hset] at ew H6
  subst ew
  repeat clear H
  have H : Hp h0 h6 [Res.ob b11 (.cells (brg g gF (.slice (some ⟨bs, 0, none⟩) 4 4)).toArray 31 (0, 0)), Res.vt g s0 t1 t2 t3 [p1, p1, p1, p1] T', Res.ft gF (.slice none 0 0) [] 10 1000 0, Res.own (.slice (some ⟨bs, 0, none⟩) 4 4) 3 1 4 (([2, 2, 2, 2] : List Int).flatMap rI), Res.ob _ (.cells ([.int .i64 vid, .int .i64 pcp, .int .i64 (n : Nat), .int .i64 pl] : List Value).toArray 44 (0, 0)), Res.ob _ (.cells F.cells.toArray 41 (0, 0))] := H6
  clear H6
  conv => whnf
  repeat ((first | refine Hp.ld H 0 rfl rfl ?_ | refine Hp.ld H 5 rfl rfl ?_ | refine iteT (by omega) ?_ | refine iteF (by omega) ?_ | refine iteET (by omega) ?_ | refine iteEF (by omega) ?_ | refine iteNT (by omega) ?_ | refine iteNF (by omega) ?_ | refine WrapK.i64 (by omega) (by omega) ?_ | refine Drawn.mk (by kernel_rfl) ?_); conv => whnf)
  refine CallK.mono (build_call _ F _ D (hD.keep H.keep) (by omega)) ?_
  rintro _ h7 ⟨k7, hh⟩
  rw [if_pos hck] at hh
  obtain ⟨sB, rfl, o3⟩ := hh
  replace H := H.made o3 k7
  have hbl := build_len F D hDl
  have ok0 : ¬ ((nextH F false 0 false 0).plain = true ∨ (0 : Int) < 0 ∨ (0 : Int) > 7 ∨ (0 : Int) < 0 ∨ (0 : Int) > 4094) := by
    rintro (x | x)
    · simp [nextH, Hdr.plain] at x
    · omega
  have ok1 : ¬ ((nextH F true pcp F.dei vid).plain = true ∨ pcp < 0 ∨ pcp > 7 ∨ vid < 0 ∨ vid > 4094) := by
    rintro (x | x)
    · exact absurd x (by simp [nextH, Hdr.plain])
    · omega
  have q0 := retag_ok hgood hfits hDl ok0 (fun _ => e7)
  have q1 := retag_ok hgood hfits hDl ok1 (fun x => by cases x)
  conv => whnf
  repeat ((first | refine Hp.ld H 1 rfl rfl ?_ | refine iteT (by omega) ?_ | refine iteF (by omega) ?_ | refine iteET (by omega) ?_ | refine iteEF (by omega) ?_ | refine iteNT (by omega) ?_ | refine iteNF (by omega) ?_ | refine WrapK.i64 (by omega) (by omega) ?_ | refine Drawn.mk (by kernel_rfl) ?_); conv => whnf)
  refine FillK.lit rfl ?_
  conv => whnf
  refine CallK.mono (dress_call (T := T') _ _ (F.build D) F _ vid pcp pl n _ _ ⟨_, _, _, rfl⟩ (vt_view (i := 2) H rfl) hT' (H.bytesOwn 0 rfl) (by omega) (parse_built hck) (by omega) hpt (by omega) (by omega) q0 q1) ?_
  rintro _ h8 ⟨k8, s8, rfl, o8⟩
  have eb : (bAnd .i64 (bShr .i64 pl (n : Nat)) 1 == 1) = hasP pl n := bit_of (by omega) (by omega) n
  have hPl := padR_length F D hDl
  have hPt := padR_take F (D := D) (R := D) List.take_length
  have hG0 := with_good hgood ok0 (fun _ => e7)
  have hG1 := with_good hgood ok1 (fun x => by cases x)
  have hGf := with_fits (padR_fits hfits)
  clear q0 q1 hbl o3 hset hpt hT' ok0 ok1
  generalize padR F D = R at *
  have hbl2 : ∀ t p d v, ((F.with t p d v).build R).length ≤ 1000000 := fun _ _ _ _ => Nat.le_trans (build_len _ R hPl.2) (by decide)
  have hX : hasP pl n = true ∨ hasP pl n = false := by cases hasP pl n <;> simp
  rcases hX with hb | hb
  case' inl =>
    rw [if_pos hb] at o8
    obtain ⟨T, hTp, hT1, hT2⟩ := parse_tx hck hG0 (hGf false 0 false 0) hPl.2 hPt
  case' inr =>
    rw [if_neg (by rw [hb]; decide)] at o8
    obtain ⟨T, hTp, hT1, hT2⟩ := parse_tx hck hG1 (hGf true pcp F.dei vid) hPl.2 hPt
  all_goals
    rw [hb] at eb
    clear hG0 hG1
    have HH := ((((((H.made o8 k8).drop 1).drop 1).drop 1).drop 1).drop 1).drop 1
    repeat clear H
    have H := HH
    clear HH
    obtain ⟨sA, sc, rfl, hsc, _, _⟩ := (H.bytesOwn 0 rfl).out
    conv => whnf
    refine CallK.mono (parse_call _ _ _ (H.bytesOwn 0 rfl) (hbl2 _ _ _ _)) ?_
    rintro _ h9 ⟨k9, h9e⟩
    rw [hTp] at h9e
    obtain ⟨A5, c5, rfl, f5⟩ := h9e
    have hc5 : T.length ≤ c5 := by
      obtain ⟨_, _, e, hh, _⟩ := f5.txt.out
      injection e with _ _ e3
      subst e3
      exact hh
    replace H := H.text k9 f5
    dsimp only [Hdr.cells, Hdr.with]
    conv => whnf
    repeat ((first | refine cnd_intro (by first | (simp; done) | (simp; omega) | omega | (simp only [Bool.and_eq_true, decide_eq_true_eq]; omega)) ?_ | refine Hp.ld H 0 rfl rfl ?_ | refine Hp.ld H 1 rfl rfl ?_ | refine Hp.ld H 2 rfl rfl ?_ | refine Hp.ld H 3 rfl rfl ?_ | refine Hp.ld H 4 rfl rfl ?_ | refine Hp.ld H 5 rfl rfl ?_ | refine Hp.ld H 6 rfl rfl ?_ | refine Hp.ld H 7 rfl rfl ?_ | refine Hp.ld H 8 rfl rfl ?_ | refine Hp.ld H 9 rfl rfl ?_ | refine Hp.ld H 10 rfl rfl ?_ | refine Hp.ld H 11 rfl rfl ?_ | (refine Hp.st H 0 rfl rfl rfl rfl rfl ?_; intro h H) | (refine Hp.st H 1 rfl rfl rfl rfl rfl ?_; intro h H) | (refine Hp.st H 2 rfl rfl rfl rfl rfl ?_; intro h H) | (refine Hp.st H 3 rfl rfl rfl rfl rfl ?_; intro h H) | (refine Hp.st H 4 rfl rfl rfl rfl rfl ?_; intro h H) | (refine Hp.st H 5 rfl rfl rfl rfl rfl ?_; intro h H) | (refine Hp.st H 6 rfl rfl rfl rfl rfl ?_; intro h H) | (refine Hp.st H 7 rfl rfl rfl rfl rfl ?_; intro h H) | (refine Hp.st H 8 rfl rfl rfl rfl rfl ?_; intro h H) | (refine Hp.st H 9 rfl rfl rfl rfl rfl ?_; intro h H) | (refine Hp.st H 10 rfl rfl rfl rfl rfl ?_; intro h H) | (refine Hp.st H 11 rfl rfl rfl rfl rfl ?_; intro h H) | (intro b h N; replace H := Hp.new H N; clear N) | refine Drawn.mk (by kernel_rfl) ?_ | refine FillK.row rfl ?_ | refine FillK.lit rfl ?_ | refine WrapK.i64 (by omega) (by omega) ?_ | refine WrapK.u64 (by omega) (by omega) ?_ | refine WrapK.u32 (by omega) (by omega) ?_ | refine WrapK.u8 (by omega) (by omega) ?_ | refine iteT (by omega) ?_ | refine iteF (by omega) ?_ | refine iteET (by omega) ?_ | refine iteEF (by omega) ?_ | refine iteNT (by omega) ?_ | refine iteNF (by omega) ?_); conv => whnf)
    refine EqK.gen EW_ok (xs := F.dst.cells) (ys := F.dst.cells) (b := true) rfl (by kernel_rfl) rfl rfl (mac_self _) ?_
    conv => whnf
    repeat ((first | refine Hp.ld H 0 rfl rfl ?_ | refine Hp.ld H 3 rfl rfl ?_ | refine iteT (by omega) ?_ | refine iteF (by omega) ?_ | refine iteET (by omega) ?_ | refine iteEF (by omega) ?_ | refine iteNT (by omega) ?_ | refine iteNF (by omega) ?_ | refine WrapK.i64 (by omega) (by omega) ?_ | refine Drawn.mk (by kernel_rfl) ?_); conv => whnf)
    refine EqK.gen EW_ok (xs := F.src.cells) (ys := F.src.cells) (b := true) rfl (by kernel_rfl) rfl rfl (mac_self _) ?_
    conv => whnf
    repeat ((first | refine Hp.ld H 0 rfl rfl ?_ | refine Hp.ld H 3 rfl rfl ?_ | refine iteT (by omega) ?_ | refine iteF (by omega) ?_ | refine iteET (by omega) ?_ | refine iteEF (by omega) ?_ | refine iteNT (by omega) ?_ | refine iteNF (by omega) ?_ | refine WrapK.i64 (by omega) (by omega) ?_ | refine Drawn.mk (by kernel_rfl) ?_); conv => whnf)
    have hM := (H.read 1 (L := T) rfl).cut (l := 0) (hi := D.length) (m := c5) (k := D.length) (c' := c5) (by omega) (by omega) (by omega) rfl rfl
    have eM : (T.drop 0).take D.length = D := hT2
    rw [eM] at hM
    refine BytesV.toString EW_ok hM (e := 5) rfl rfl rfl rfl rfl rfl ?_
    conv => whnf
    repeat ((first | refine Hp.ld H 0 rfl rfl ?_ | refine Hp.ld H 3 rfl rfl ?_ | refine iteT (by omega) ?_ | refine iteF (by omega) ?_ | refine iteET (by omega) ?_ | refine iteEF (by omega) ?_ | refine iteNT (by omega) ?_ | refine iteNF (by omega) ?_ | refine WrapK.i64 (by omega) (by omega) ?_ | refine Drawn.mk (by kernel_rfl) ?_); conv => whnf)
    refine BytesV.toString EW_ok (hD.keep H.keep) (e := 5) rfl rfl rfl rfl rfl rfl ?_
    conv => whnf
    repeat ((first | refine Hp.ld H 0 rfl rfl ?_ | refine Hp.ld H 3 rfl rfl ?_ | refine iteT (by omega) ?_ | refine iteF (by omega) ?_ | refine iteET (by omega) ?_ | refine iteEF (by omega) ?_ | refine iteNT (by omega) ?_ | refine iteNF (by omega) ?_ | refine WrapK.i64 (by omega) (by omega) ?_ | refine Drawn.mk (by kernel_rfl) ?_); conv => whnf)
    refine StrK.lists (L := D) (M := D) ?_
    rw [beq_self_eq_true]
    conv => whnf
    repeat ((first | refine Hp.ld H 0 rfl rfl ?_ | refine Hp.ld H 3 rfl rfl ?_ | refine iteT (by omega) ?_ | refine iteF (by omega) ?_ | refine iteET (by omega) ?_ | refine iteEF (by omega) ?_ | refine iteNT (by omega) ?_ | refine iteNF (by omega) ?_ | refine WrapK.i64 (by omega) (by omega) ?_ | refine Drawn.mk (by kernel_rfl) ?_); conv => whnf)
    rw [eb]
    conv => whnf
    repeat ((first | refine Hp.ld H 0 rfl rfl ?_ | refine Hp.ld H 3 rfl rfl ?_ | refine iteT (by omega) ?_ | refine iteF (by omega) ?_ | refine iteET (by omega) ?_ | refine iteEF (by omega) ?_ | refine iteNT (by omega) ?_ | refine iteNF (by omega) ?_ | refine WrapK.i64 (by omega) (by omega) ?_ | refine Drawn.mk (by kernel_rfl) ?_); conv => whnf)
  · exact ⟨by rw [tup_one, beq_self_eq_true], H.keep⟩
  · exact ⟨rfl, H.keep⟩

end Go.Proofs.Ytcjilkemfmhkgaa
