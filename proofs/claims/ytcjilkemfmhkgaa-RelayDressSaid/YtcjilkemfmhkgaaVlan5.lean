import Derived.Test.YtcjilkemfmhkgaaVlan4
namespace Go.Proofs.Ytcjilkemfmhkgaa
open Go.Vc
set_option maxRecDepth 10000
set_option maxHeartbeats 4000000

/-! ### vlan: Set -/

theorem set_call {h0 h : Heap} {rs : List Res} (H : Hp h0 h rs) (i g : Nat) (s0 s1 s2 s3 : Value) (ps : List VPort) (T : List VRow) (hn : nth rs i = some (Res.vt g s0 s1 s2 s3 ps T)) (v m p : Int) (hl : ps.length ≤ 16) (hT : GoodT T)
    (hm1 : -9223372036854775808 ≤ m) (hm2 : m ≤ 9223372036854775807) (hp1 : -9223372036854775808 ≤ p) (hp2 : p ≤ 9223372036854775807) :
    CallK Try.prog 9 #[.pointer (some ⟨g, 0, none⟩), .int .i64 v, .int .i64 m, .int .i64 p] h fun w h' => w = .int .i64 ((setF ps.length v m p T).1 : Nat) ∧ ∃ s1' s2' s3', Hp h0 h' (setN rs i (Res.vt g s0 s1' s2' s3' ps (setF ps.length v m p T).2)) := by
  refine CallK.of_vc EW_ok [0, 1, 2, 3, 8, 9, 10, 35, 69, 127, 130, 147] Try.func9 rfl (Nat.le_of_ble_eq_true rfl) ?_
  have hT64 := hT.len
  have H : Hp h0 h (Res.vt g s0 s1 s2 s3 ps T :: delN rs i) := H.pick i hn
  have hview := vt_view (i := 0) H rfl
  replace H := vt_open H
  obtain ⟨A0, c0, rfl⟩ := own_shape (H.get 0 rfl)
  obtain ⟨A1, c1, rfl⟩ := own_shape (H.get 1 rfl)
  obtain ⟨A2, c2, rfl⟩ := own_shape (H.get 2 rfl)
  obtain ⟨A3, c3, rfl⟩ := own_shape (H.get 3 rfl)
  have hc1 : T.length ≤ c1 := by
    obtain ⟨_, _, e, hc, _⟩ := hview.vids.out
    injection e with _ _ e
    subst e; exact hc
  have hc2 : T.length ≤ c2 := by
    obtain ⟨_, _, e, hc, _⟩ := hview.mems.out
    injection e with _ _ e
    subst e; exact hc
  have hc3 : T.length ≤ c3 := by
    obtain ⟨_, _, e, hc, _⟩ := hview.plains.out
    injection e with _ _ e
    subst e; exact hc
  have hpw := pow_le hl
  have hpw1 : 1 ≤ 2 ^ ps.length := Nat.one_le_two_pow
  have hlow := bAndNot_low (a := m) hm1 hm2 hl
  have hshl := shl_one hl
  conv => whnf
  repeat ((first | refine cnd_intro (by first | (simp; done) | (simp; omega) | omega | (simp only [Bool.and_eq_true, decide_eq_true_eq]; omega)) ?_ | refine Hp.ld H 0 rfl rfl ?_ | refine Hp.ld H 1 rfl rfl ?_ | refine Hp.ld H 2 rfl rfl ?_ | refine Hp.ld H 3 rfl rfl ?_ | refine Hp.ld H 4 rfl rfl ?_ | refine Hp.ld H 5 rfl rfl ?_ | (refine Hp.st H 0 rfl rfl rfl rfl rfl ?_; intro h H) | (refine Hp.st H 1 rfl rfl rfl rfl rfl ?_; intro h H) | (refine Hp.st H 2 rfl rfl rfl rfl rfl ?_; intro h H) | (refine Hp.st H 3 rfl rfl rfl rfl rfl ?_; intro h H) | (refine Hp.st H 4 rfl rfl rfl rfl rfl ?_; intro h H) | (refine Hp.st H 5 rfl rfl rfl rfl rfl ?_; intro h H) | (intro b h N; replace H := Hp.new H N; clear N) | refine Drawn.mk (by kernel_rfl) ?_ | refine FillK.row rfl ?_ | refine FillK.lit rfl ?_ | refine WrapK.i64 (by omega) (by omega) ?_ | refine WrapK.u64 (by omega) (by omega) ?_ | refine WrapK.u32 (by omega) (by omega) ?_ | refine WrapK.u8 (by omega) (by omega) ?_ | refine iteT (by omega) ?_ | refine iteF (by omega) ?_ | refine iteET (by omega) ?_ | refine iteEF (by omega) ?_ | refine iteNT (by omega) ?_ | refine iteNF (by omega) ?_); conv => whnf)
  rw [hshl]
  conv => whnf
  repeat ((first | refine cnd_intro (by first | (simp; done) | (simp; omega) | omega | (simp only [Bool.and_eq_true, decide_eq_true_eq]; omega)) ?_ | refine Hp.ld H 0 rfl rfl ?_ | refine Hp.ld H 1 rfl rfl ?_ | refine Hp.ld H 2 rfl rfl ?_ | refine Hp.ld H 3 rfl rfl ?_ | refine Hp.ld H 4 rfl rfl ?_ | refine Hp.ld H 5 rfl rfl ?_ | (refine Hp.st H 0 rfl rfl rfl rfl rfl ?_; intro h H) | (refine Hp.st H 1 rfl rfl rfl rfl rfl ?_; intro h H) | (refine Hp.st H 2 rfl rfl rfl rfl rfl ?_; intro h H) | (refine Hp.st H 3 rfl rfl rfl rfl rfl ?_; intro h H) | (refine Hp.st H 4 rfl rfl rfl rfl rfl ?_; intro h H) | (refine Hp.st H 5 rfl rfl rfl rfl rfl ?_; intro h H) | (intro b h N; replace H := Hp.new H N; clear N) | refine Drawn.mk (by kernel_rfl) ?_ | refine FillK.row rfl ?_ | refine FillK.lit rfl ?_ | refine WrapK.i64 (by omega) (by omega) ?_ | refine WrapK.u64 (by omega) (by omega) ?_ | refine WrapK.u32 (by omega) (by omega) ?_ | refine WrapK.u8 (by omega) (by omega) ?_ | refine iteT (by omega) ?_ | refine iteF (by omega) ?_ | refine iteET (by omega) ?_ | refine iteEF (by omega) ?_ | refine iteNT (by omega) ?_ | refine iteNF (by omega) ?_); conv => whnf)
  by_cases b1 : v < 1
  · have e : setF ps.length v m p T = (1, T) := by unfold setF; rw [if_neg (fun h => by have := h.1; omega)]
    rw [e]
    conv => whnf
    repeat ((first | refine cnd_intro (by first | (simp; done) | (simp; omega) | omega | (simp only [Bool.and_eq_true, decide_eq_true_eq]; omega)) ?_ | refine Hp.ld H 0 rfl rfl ?_ | refine Hp.ld H 1 rfl rfl ?_ | refine Hp.ld H 2 rfl rfl ?_ | refine Hp.ld H 3 rfl rfl ?_ | refine Hp.ld H 4 rfl rfl ?_ | refine Hp.ld H 5 rfl rfl ?_ | (refine Hp.st H 0 rfl rfl rfl rfl rfl ?_; intro h H) | (refine Hp.st H 1 rfl rfl rfl rfl rfl ?_; intro h H) | (refine Hp.st H 2 rfl rfl rfl rfl rfl ?_; intro h H) | (refine Hp.st H 3 rfl rfl rfl rfl rfl ?_; intro h H) | (refine Hp.st H 4 rfl rfl rfl rfl rfl ?_; intro h H) | (refine Hp.st H 5 rfl rfl rfl rfl rfl ?_; intro h H) | (intro b h N; replace H := Hp.new H N; clear N) | refine Drawn.mk (by kernel_rfl) ?_ | refine FillK.row rfl ?_ | refine FillK.lit rfl ?_ | refine WrapK.i64 (by omega) (by omega) ?_ | refine WrapK.u64 (by omega) (by omega) ?_ | refine WrapK.u32 (by omega) (by omega) ?_ | refine WrapK.u8 (by omega) (by omega) ?_ | refine iteT (by omega) ?_ | refine iteF (by omega) ?_ | refine iteET (by omega) ?_ | refine iteEF (by omega) ?_ | refine iteNT (by omega) ?_ | refine iteNF (by omega) ?_); conv => whnf)
    exact ⟨rfl, _, _, _, (vt_close H rfl rfl rfl rfl rfl rfl rfl rfl).unpick hn⟩
  by_cases b2 : v > 4094
  · have e : setF ps.length v m p T = (1, T) := by unfold setF; rw [if_neg (fun h => by have := h.2.1; omega)]
    rw [e]
    conv => whnf
    repeat ((first | refine cnd_intro (by first | (simp; done) | (simp; omega) | omega | (simp only [Bool.and_eq_true, decide_eq_true_eq]; omega)) ?_ | refine Hp.ld H 0 rfl rfl ?_ | refine Hp.ld H 1 rfl rfl ?_ | refine Hp.ld H 2 rfl rfl ?_ | refine Hp.ld H 3 rfl rfl ?_ | refine Hp.ld H 4 rfl rfl ?_ | refine Hp.ld H 5 rfl rfl ?_ | (refine Hp.st H 0 rfl rfl rfl rfl rfl ?_; intro h H) | (refine Hp.st H 1 rfl rfl rfl rfl rfl ?_; intro h H) | (refine Hp.st H 2 rfl rfl rfl rfl rfl ?_; intro h H) | (refine Hp.st H 3 rfl rfl rfl rfl rfl ?_; intro h H) | (refine Hp.st H 4 rfl rfl rfl rfl rfl ?_; intro h H) | (refine Hp.st H 5 rfl rfl rfl rfl rfl ?_; intro h H) | (intro b h N; replace H := Hp.new H N; clear N) | refine Drawn.mk (by kernel_rfl) ?_ | refine FillK.row rfl ?_ | refine FillK.lit rfl ?_ | refine WrapK.i64 (by omega) (by omega) ?_ | refine WrapK.u64 (by omega) (by omega) ?_ | refine WrapK.u32 (by omega) (by omega) ?_ | refine WrapK.u8 (by omega) (by omega) ?_ | refine iteT (by omega) ?_ | refine iteF (by omega) ?_ | refine iteET (by omega) ?_ | refine iteEF (by omega) ?_ | refine iteNT (by omega) ?_ | refine iteNF (by omega) ?_); conv => whnf)
    exact ⟨rfl, _, _, _, (vt_close H rfl rfl rfl rfl rfl rfl rfl rfl).unpick hn⟩
  by_cases b3 : bAndNot .i64 m (((2 ^ ps.length : Nat) : Int) - 1) = 0
  case neg =>
    have e : setF ps.length v m p T = (1, T) := by unfold setF; rw [if_neg (fun h => b3 (hlow.2 h.2.2.1))]
    rw [e]
    conv => whnf
    repeat ((first | refine cnd_intro (by first | (simp; done) | (simp; omega) | omega | (simp only [Bool.and_eq_true, decide_eq_true_eq]; omega)) ?_ | refine Hp.ld H 0 rfl rfl ?_ | refine Hp.ld H 1 rfl rfl ?_ | refine Hp.ld H 2 rfl rfl ?_ | refine Hp.ld H 3 rfl rfl ?_ | refine Hp.ld H 4 rfl rfl ?_ | refine Hp.ld H 5 rfl rfl ?_ | (refine Hp.st H 0 rfl rfl rfl rfl rfl ?_; intro h H) | (refine Hp.st H 1 rfl rfl rfl rfl rfl ?_; intro h H) | (refine Hp.st H 2 rfl rfl rfl rfl rfl ?_; intro h H) | (refine Hp.st H 3 rfl rfl rfl rfl rfl ?_; intro h H) | (refine Hp.st H 4 rfl rfl rfl rfl rfl ?_; intro h H) | (refine Hp.st H 5 rfl rfl rfl rfl rfl ?_; intro h H) | (intro b h N; replace H := Hp.new H N; clear N) | refine Drawn.mk (by kernel_rfl) ?_ | refine FillK.row rfl ?_ | refine FillK.lit rfl ?_ | refine WrapK.i64 (by omega) (by omega) ?_ | refine WrapK.u64 (by omega) (by omega) ?_ | refine WrapK.u32 (by omega) (by omega) ?_ | refine WrapK.u8 (by omega) (by omega) ?_ | refine iteT (by omega) ?_ | refine iteF (by omega) ?_ | refine iteET (by omega) ?_ | refine iteEF (by omega) ?_ | refine iteNT (by omega) ?_ | refine iteNF (by omega) ?_); conv => whnf)
    exact ⟨rfl, _, _, _, (vt_close H rfl rfl rfl rfl rfl rfl rfl rfl).unpick hn⟩
  have hm := hlow.1 b3
  have hpl := bAndNot_zero (p := p) (m := m) hp1 hp2 hm.1 (by omega)
  by_cases b4 : bAndNot .i64 p m = 0
  case neg =>
    have e : setF ps.length v m p T = (1, T) := by unfold setF; rw [if_neg (fun h => b4 (hpl.2 h.2.2.2))]
    rw [e]
    conv => whnf
    repeat ((first | refine cnd_intro (by first | (simp; done) | (simp; omega) | omega | (simp only [Bool.and_eq_true, decide_eq_true_eq]; omega)) ?_ | refine Hp.ld H 0 rfl rfl ?_ | refine Hp.ld H 1 rfl rfl ?_ | refine Hp.ld H 2 rfl rfl ?_ | refine Hp.ld H 3 rfl rfl ?_ | refine Hp.ld H 4 rfl rfl ?_ | refine Hp.ld H 5 rfl rfl ?_ | (refine Hp.st H 0 rfl rfl rfl rfl rfl ?_; intro h H) | (refine Hp.st H 1 rfl rfl rfl rfl rfl ?_; intro h H) | (refine Hp.st H 2 rfl rfl rfl rfl rfl ?_; intro h H) | (refine Hp.st H 3 rfl rfl rfl rfl rfl ?_; intro h H) | (refine Hp.st H 4 rfl rfl rfl rfl rfl ?_; intro h H) | (refine Hp.st H 5 rfl rfl rfl rfl rfl ?_; intro h H) | (intro b h N; replace H := Hp.new H N; clear N) | refine Drawn.mk (by kernel_rfl) ?_ | refine FillK.row rfl ?_ | refine FillK.lit rfl ?_ | refine WrapK.i64 (by omega) (by omega) ?_ | refine WrapK.u64 (by omega) (by omega) ?_ | refine WrapK.u32 (by omega) (by omega) ?_ | refine WrapK.u8 (by omega) (by omega) ?_ | refine iteT (by omega) ?_ | refine iteF (by omega) ?_ | refine iteET (by omega) ?_ | refine iteEF (by omega) ?_ | refine iteNT (by omega) ?_ | refine iteNF (by omega) ?_); conv => whnf)
    exact ⟨rfl, _, _, _, (vt_close H rfl rfl rfl rfl rfl rfl rfl rfl).unpick hn⟩
  have hok : okSet ps.length v m p := ⟨by omega, by omega, hm, hpl.1 b4⟩
  have e : setF ps.length v m p T = if m = 0 then (0, vdel v T)
    else if T.any (VRow.isV v) = true then (0, vput v m p T)
    else if T.length = 64 then (20, T) else (0, T ++ [⟨v, m, p⟩]) := by unfold setF; rw [if_pos hok]
  rw [e]
  clear e hlow hpl
  conv => whnf
  repeat ((first | refine cnd_intro (by first | (simp; done) | (simp; omega) | omega | (simp only [Bool.and_eq_true, decide_eq_true_eq]; omega)) ?_ | refine Hp.ld H 0 rfl rfl ?_ | refine Hp.ld H 1 rfl rfl ?_ | refine Hp.ld H 2 rfl rfl ?_ | refine Hp.ld H 3 rfl rfl ?_ | refine Hp.ld H 4 rfl rfl ?_ | refine Hp.ld H 5 rfl rfl ?_ | (refine Hp.st H 0 rfl rfl rfl rfl rfl ?_; intro h H) | (refine Hp.st H 1 rfl rfl rfl rfl rfl ?_; intro h H) | (refine Hp.st H 2 rfl rfl rfl rfl rfl ?_; intro h H) | (refine Hp.st H 3 rfl rfl rfl rfl rfl ?_; intro h H) | (refine Hp.st H 4 rfl rfl rfl rfl rfl ?_; intro h H) | (refine Hp.st H 5 rfl rfl rfl rfl rfl ?_; intro h H) | (intro b h N; replace H := Hp.new H N; clear N) | refine Drawn.mk (by kernel_rfl) ?_ | refine FillK.row rfl ?_ | refine FillK.lit rfl ?_ | refine WrapK.i64 (by omega) (by omega) ?_ | refine WrapK.u64 (by omega) (by omega) ?_ | refine WrapK.u32 (by omega) (by omega) ?_ | refine WrapK.u8 (by omega) (by omega) ?_ | refine iteT (by omega) ?_ | refine iteF (by omega) ?_ | refine iteET (by omega) ?_ | refine iteEF (by omega) ?_ | refine iteNT (by omega) ?_ | refine iteNF (by omega) ?_); conv => whnf)
  refine CallK.mono (at_call _ g _ _ _ _ _ _ v hview (by omega)) ?_
  rintro _ h2 ⟨k2, n, rfl, hn2⟩
  replace H := H.and k2
  by_cases c4 : m = 0
  · subst c4
    rw [if_pos rfl]
    rcases hn2 with ⟨rfl, ha⟩ | ⟨j, x, rfl, hx, hp, ha⟩
    · rw [vdel_none ha]
      conv => whnf
      repeat ((first | refine cnd_intro (by first | (simp; done) | (simp; omega) | omega | (simp only [Bool.and_eq_true, decide_eq_true_eq]; omega)) ?_ | refine Hp.ld H 0 rfl rfl ?_ | refine Hp.ld H 1 rfl rfl ?_ | refine Hp.ld H 2 rfl rfl ?_ | refine Hp.ld H 3 rfl rfl ?_ | refine Hp.ld H 4 rfl rfl ?_ | refine Hp.ld H 5 rfl rfl ?_ | (refine Hp.st H 0 rfl rfl rfl rfl rfl ?_; intro h H) | (refine Hp.st H 1 rfl rfl rfl rfl rfl ?_; intro h H) | (refine Hp.st H 2 rfl rfl rfl rfl rfl ?_; intro h H) | (refine Hp.st H 3 rfl rfl rfl rfl rfl ?_; intro h H) | (refine Hp.st H 4 rfl rfl rfl rfl rfl ?_; intro h H) | (refine Hp.st H 5 rfl rfl rfl rfl rfl ?_; intro h H) | (intro b h N; replace H := Hp.new H N; clear N) | refine Drawn.mk (by kernel_rfl) ?_ | refine FillK.row rfl ?_ | refine FillK.lit rfl ?_ | refine WrapK.i64 (by omega) (by omega) ?_ | refine WrapK.u64 (by omega) (by omega) ?_ | refine WrapK.u32 (by omega) (by omega) ?_ | refine WrapK.u8 (by omega) (by omega) ?_ | refine iteT (by omega) ?_ | refine iteF (by omega) ?_ | refine iteET (by omega) ?_ | refine iteEF (by omega) ?_ | refine iteNT (by omega) ?_ | refine iteNF (by omega) ?_); conv => whnf)
      exact ⟨rfl, _, _, _, (vt_close H rfl rfl rfl rfl rfl rfl rfl rfl).unpick hn⟩
    · have hj : j < T.length := by
        rcases Nat.lt_or_ge j T.length with h | h
        · exact h
        · rw [List.getElem?_eq_none h] at hx; cases hx
      rw [vdel_at hT.apart hx (of_decide_eq_true hp)]
      have hle : T.length - 1 = (T.eraseIdx j).length := by rw [List.length_eraseIdx, if_pos hj]
      conv => whnf
      repeat ((first | refine cnd_intro (by first | (simp; done) | (simp; omega) | omega | (simp only [Bool.and_eq_true, decide_eq_true_eq]; omega)) ?_ | refine Hp.ld H 0 rfl rfl ?_ | refine Hp.ld H 1 rfl rfl ?_ | refine Hp.ld H 2 rfl rfl ?_ | refine Hp.ld H 3 rfl rfl ?_ | refine Hp.ld H 4 rfl rfl ?_ | refine Hp.ld H 5 rfl rfl ?_ | (refine Hp.st H 0 rfl rfl rfl rfl rfl ?_; intro h H) | (refine Hp.st H 1 rfl rfl rfl rfl rfl ?_; intro h H) | (refine Hp.st H 2 rfl rfl rfl rfl rfl ?_; intro h H) | (refine Hp.st H 3 rfl rfl rfl rfl rfl ?_; intro h H) | (refine Hp.st H 4 rfl rfl rfl rfl rfl ?_; intro h H) | (refine Hp.st H 5 rfl rfl rfl rfl rfl ?_; intro h H) | (intro b h N; replace H := Hp.new H N; clear N) | refine Drawn.mk (by kernel_rfl) ?_ | refine FillK.row rfl ?_ | refine FillK.lit rfl ?_ | refine WrapK.i64 (by omega) (by omega) ?_ | refine WrapK.u64 (by omega) (by omega) ?_ | refine WrapK.u32 (by omega) (by omega) ?_ | refine WrapK.u8 (by omega) (by omega) ?_ | refine iteT (by omega) ?_ | refine iteF (by omega) ?_ | refine iteET (by omega) ?_ | refine iteEF (by omega) ?_ | refine iteNT (by omega) ?_ | refine iteNF (by omega) ?_); conv => whnf)
      refine cut_out (x0 := isT) EW_ok (f := VRow.v) (fun _ => rfl) (fun _ => rfl) H 1 (j := j) (z := i64T) rfl rfl rfl hj ?_ ?_ rfl rfl rfl rfl rfl (fun k h => by cases h) ?_
      · rfl
      · rfl
      clear H
      intro s1' h3 H
      obtain ⟨A1', c1', rfl⟩ := own_shape (H.get 1 rfl)
      conv => whnf
      repeat ((first | refine cnd_intro (by first | (simp; done) | (simp; omega) | omega | (simp only [Bool.and_eq_true, decide_eq_true_eq]; omega)) ?_ | refine Hp.ld H 0 rfl rfl ?_ | refine Hp.ld H 1 rfl rfl ?_ | refine Hp.ld H 2 rfl rfl ?_ | refine Hp.ld H 3 rfl rfl ?_ | refine Hp.ld H 4 rfl rfl ?_ | refine Hp.ld H 5 rfl rfl ?_ | (refine Hp.st H 0 rfl rfl rfl rfl rfl ?_; intro h H) | (refine Hp.st H 1 rfl rfl rfl rfl rfl ?_; intro h H) | (refine Hp.st H 2 rfl rfl rfl rfl rfl ?_; intro h H) | (refine Hp.st H 3 rfl rfl rfl rfl rfl ?_; intro h H) | (refine Hp.st H 4 rfl rfl rfl rfl rfl ?_; intro h H) | (refine Hp.st H 5 rfl rfl rfl rfl rfl ?_; intro h H) | (intro b h N; replace H := Hp.new H N; clear N) | refine Drawn.mk (by kernel_rfl) ?_ | refine FillK.row rfl ?_ | refine FillK.lit rfl ?_ | refine WrapK.i64 (by omega) (by omega) ?_ | refine WrapK.u64 (by omega) (by omega) ?_ | refine WrapK.u32 (by omega) (by omega) ?_ | refine WrapK.u8 (by omega) (by omega) ?_ | refine iteT (by omega) ?_ | refine iteF (by omega) ?_ | refine iteET (by omega) ?_ | refine iteEF (by omega) ?_ | refine iteNT (by omega) ?_ | refine iteNF (by omega) ?_); conv => whnf)
      refine cut_out (x0 := isT) EW_ok (f := VRow.m) (fun _ => rfl) (fun _ => rfl) H 2 (j := j) (z := i64T) rfl rfl rfl hj ?_ ?_ rfl rfl rfl rfl rfl (fun k h => by cases h) ?_
      · rfl
      · rfl
      clear H
      intro s2' h4 H
      obtain ⟨A2', c2', rfl⟩ := own_shape (H.get 2 rfl)
      conv => whnf
      repeat ((first | refine cnd_intro (by first | (simp; done) | (simp; omega) | omega | (simp only [Bool.and_eq_true, decide_eq_true_eq]; omega)) ?_ | refine Hp.ld H 0 rfl rfl ?_ | refine Hp.ld H 1 rfl rfl ?_ | refine Hp.ld H 2 rfl rfl ?_ | refine Hp.ld H 3 rfl rfl ?_ | refine Hp.ld H 4 rfl rfl ?_ | refine Hp.ld H 5 rfl rfl ?_ | (refine Hp.st H 0 rfl rfl rfl rfl rfl ?_; intro h H) | (refine Hp.st H 1 rfl rfl rfl rfl rfl ?_; intro h H) | (refine Hp.st H 2 rfl rfl rfl rfl rfl ?_; intro h H) | (refine Hp.st H 3 rfl rfl rfl rfl rfl ?_; intro h H) | (refine Hp.st H 4 rfl rfl rfl rfl rfl ?_; intro h H) | (refine Hp.st H 5 rfl rfl rfl rfl rfl ?_; intro h H) | (intro b h N; replace H := Hp.new H N; clear N) | refine Drawn.mk (by kernel_rfl) ?_ | refine FillK.row rfl ?_ | refine FillK.lit rfl ?_ | refine WrapK.i64 (by omega) (by omega) ?_ | refine WrapK.u64 (by omega) (by omega) ?_ | refine WrapK.u32 (by omega) (by omega) ?_ | refine WrapK.u8 (by omega) (by omega) ?_ | refine iteT (by omega) ?_ | refine iteF (by omega) ?_ | refine iteET (by omega) ?_ | refine iteEF (by omega) ?_ | refine iteNT (by omega) ?_ | refine iteNF (by omega) ?_); conv => whnf)
      refine cut_out (x0 := isT) EW_ok (f := VRow.p) (fun _ => rfl) (fun _ => rfl) H 3 (j := j) (z := i64T) rfl rfl rfl hj ?_ ?_ rfl rfl rfl rfl rfl (fun k h => by cases h) ?_
      · rfl
      · rfl
      clear H
      intro s3' h5 H
      obtain ⟨A3', c3', rfl⟩ := own_shape (H.get 3 rfl)
      conv => whnf
      repeat ((first | refine cnd_intro (by first | (simp; done) | (simp; omega) | omega | (simp only [Bool.and_eq_true, decide_eq_true_eq]; omega)) ?_ | refine Hp.ld H 0 rfl rfl ?_ | refine Hp.ld H 1 rfl rfl ?_ | refine Hp.ld H 2 rfl rfl ?_ | refine Hp.ld H 3 rfl rfl ?_ | refine Hp.ld H 4 rfl rfl ?_ | refine Hp.ld H 5 rfl rfl ?_ | (refine Hp.st H 0 rfl rfl rfl rfl rfl ?_; intro h H) | (refine Hp.st H 1 rfl rfl rfl rfl rfl ?_; intro h H) | (refine Hp.st H 2 rfl rfl rfl rfl rfl ?_; intro h H) | (refine Hp.st H 3 rfl rfl rfl rfl rfl ?_; intro h H) | (refine Hp.st H 4 rfl rfl rfl rfl rfl ?_; intro h H) | (refine Hp.st H 5 rfl rfl rfl rfl rfl ?_; intro h H) | (intro b h N; replace H := Hp.new H N; clear N) | refine Drawn.mk (by kernel_rfl) ?_ | refine FillK.row rfl ?_ | refine FillK.lit rfl ?_ | refine WrapK.i64 (by omega) (by omega) ?_ | refine WrapK.u64 (by omega) (by omega) ?_ | refine WrapK.u32 (by omega) (by omega) ?_ | refine WrapK.u8 (by omega) (by omega) ?_ | refine iteT (by omega) ?_ | refine iteF (by omega) ?_ | refine iteET (by omega) ?_ | refine iteEF (by omega) ?_ | refine iteNT (by omega) ?_ | refine iteNF (by omega) ?_); conv => whnf)
      exact ⟨rfl, _, _, _, (vt_close H rfl hle hle hle rfl rfl rfl rfl).unpick hn⟩
  rw [if_neg c4]
  rcases hn2 with ⟨rfl, ha⟩ | ⟨j, x, rfl, hx, hp, ha⟩
  case inr =>
    have hj : j < T.length := by
      rcases Nat.lt_or_ge j T.length with h | h
      · exact h
      · rw [List.getElem?_eq_none h] at hx; cases hx
    have hany : T.any (VRow.isV v) = true := List.any_eq_true.2 ⟨x, List.mem_of_getElem? hx, hp⟩
    rw [if_pos hany, vput_at hx hp ha]
    obtain ⟨b2, cap2, r2, hbe2, hcap2, hlen2, H⟩ := H.opened 2 rfl (by omega) (by decide)
    injection hbe2 with hA _ hc
    subst hA hc
    obtain ⟨b3, cap3, r3, hbe3, hcap3, hlen3, H⟩ := H.opened 3 rfl (by omega) (by decide)
    injection hbe3 with hA _ hc
    subst hA hc
    have l2 : ((T.take j).flatMap VRow.m).length = j := by rw [flat_length (f := VRow.m) (n := 1) (fun _ => rfl), List.length_take, Nat.min_eq_left (by omega), Nat.mul_one]
    have l3 : ((T.take j).flatMap VRow.p).length = j := by rw [flat_length (f := VRow.p) (n := 1) (fun _ => rfl), List.length_take, Nat.min_eq_left (by omega), Nat.mul_one]
    have t2 : (T.flatMap VRow.m).length = T.length := by rw [flat_length (f := VRow.m) (n := 1) (fun _ => rfl), Nat.mul_one]
    have t3 : (T.flatMap VRow.p).length = T.length := by rw [flat_length (f := VRow.p) (n := 1) (fun _ => rfl), Nat.mul_one]
    conv => whnf
    repeat ((first | refine cnd_intro (by first | (simp; done) | (simp; omega) | omega | (simp only [Bool.and_eq_true, decide_eq_true_eq]; omega)) ?_ | refine Hp.ld H 0 rfl rfl ?_ | refine Hp.ld H 1 rfl rfl ?_ | refine Hp.ld H 2 rfl rfl ?_ | refine Hp.ld H 3 rfl rfl ?_ | refine Hp.ld H 4 rfl rfl ?_ | refine Hp.ld H 5 rfl rfl ?_ | (refine Hp.st H 0 rfl rfl rfl rfl rfl ?_; intro h H) | (refine Hp.st H 1 rfl rfl rfl rfl rfl ?_; intro h H) | (refine Hp.st H 2 rfl rfl rfl rfl rfl ?_; intro h H) | (refine Hp.st H 3 rfl rfl rfl rfl rfl ?_; intro h H) | (refine Hp.st H 4 rfl rfl rfl rfl rfl ?_; intro h H) | (refine Hp.st H 5 rfl rfl rfl rfl rfl ?_; intro h H) | (intro b h N; replace H := Hp.new H N; clear N) | refine Drawn.mk (by kernel_rfl) ?_ | refine FillK.row rfl ?_ | refine FillK.lit rfl ?_ | refine WrapK.i64 (by omega) (by omega) ?_ | refine WrapK.u64 (by omega) (by omega) ?_ | refine WrapK.u32 (by omega) (by omega) ?_ | refine WrapK.u8 (by omega) (by omega) ?_ | refine iteT (by omega) ?_ | refine iteF (by omega) ?_ | refine iteET (by omega) ?_ | refine iteEF (by omega) ?_ | refine iteNT (by omega) ?_ | refine iteNF (by omega) ?_); conv => whnf)
    refine Hp.stMid H 2 (a := (T.take j).flatMap VRow.m) (q := VRow.m x) (r := (T.drop (j + 1)).flatMap VRow.m ++ r2) (y := i64T) rfl ?_ rfl rfl rfl rfl ?_ ?_
    · rw [flat_cut (f := VRow.m) hx]; simp only [List.append_assoc]
    · rw [l2]; simp
    clear H
    intro h3 H
    conv => whnf
    repeat ((first | refine cnd_intro (by first | (simp; done) | (simp; omega) | omega | (simp only [Bool.and_eq_true, decide_eq_true_eq]; omega)) ?_ | refine Hp.ld H 0 rfl rfl ?_ | refine Hp.ld H 1 rfl rfl ?_ | refine Hp.ld H 2 rfl rfl ?_ | refine Hp.ld H 3 rfl rfl ?_ | refine Hp.ld H 4 rfl rfl ?_ | refine Hp.ld H 5 rfl rfl ?_ | (refine Hp.st H 0 rfl rfl rfl rfl rfl ?_; intro h H) | (refine Hp.st H 1 rfl rfl rfl rfl rfl ?_; intro h H) | (refine Hp.st H 2 rfl rfl rfl rfl rfl ?_; intro h H) | (refine Hp.st H 3 rfl rfl rfl rfl rfl ?_; intro h H) | (refine Hp.st H 4 rfl rfl rfl rfl rfl ?_; intro h H) | (refine Hp.st H 5 rfl rfl rfl rfl rfl ?_; intro h H) | (intro b h N; replace H := Hp.new H N; clear N) | refine Drawn.mk (by kernel_rfl) ?_ | refine FillK.row rfl ?_ | refine FillK.lit rfl ?_ | refine WrapK.i64 (by omega) (by omega) ?_ | refine WrapK.u64 (by omega) (by omega) ?_ | refine WrapK.u32 (by omega) (by omega) ?_ | refine WrapK.u8 (by omega) (by omega) ?_ | refine iteT (by omega) ?_ | refine iteF (by omega) ?_ | refine iteET (by omega) ?_ | refine iteEF (by omega) ?_ | refine iteNT (by omega) ?_ | refine iteNF (by omega) ?_); conv => whnf)
    refine Hp.stMid H 3 (a := (T.take j).flatMap VRow.p) (q := VRow.p x) (r := (T.drop (j + 1)).flatMap VRow.p ++ r3) (y := i64T) rfl ?_ rfl rfl rfl rfl ?_ ?_
    · rw [flat_cut (f := VRow.p) hx]; simp only [List.append_assoc]
    · rw [l3]; simp
    clear H
    intro h4 H
    conv => whnf
    repeat ((first | refine cnd_intro (by first | (simp; done) | (simp; omega) | omega | (simp only [Bool.and_eq_true, decide_eq_true_eq]; omega)) ?_ | refine Hp.ld H 0 rfl rfl ?_ | refine Hp.ld H 1 rfl rfl ?_ | refine Hp.ld H 2 rfl rfl ?_ | refine Hp.ld H 3 rfl rfl ?_ | refine Hp.ld H 4 rfl rfl ?_ | refine Hp.ld H 5 rfl rfl ?_ | (refine Hp.st H 0 rfl rfl rfl rfl rfl ?_; intro h H) | (refine Hp.st H 1 rfl rfl rfl rfl rfl ?_; intro h H) | (refine Hp.st H 2 rfl rfl rfl rfl rfl ?_; intro h H) | (refine Hp.st H 3 rfl rfl rfl rfl rfl ?_; intro h H) | (refine Hp.st H 4 rfl rfl rfl rfl rfl ?_; intro h H) | (refine Hp.st H 5 rfl rfl rfl rfl rfl ?_; intro h H) | (intro b h N; replace H := Hp.new H N; clear N) | refine Drawn.mk (by kernel_rfl) ?_ | refine FillK.row rfl ?_ | refine FillK.lit rfl ?_ | refine WrapK.i64 (by omega) (by omega) ?_ | refine WrapK.u64 (by omega) (by omega) ?_ | refine WrapK.u32 (by omega) (by omega) ?_ | refine WrapK.u8 (by omega) (by omega) ?_ | refine iteT (by omega) ?_ | refine iteF (by omega) ?_ | refine iteET (by omega) ?_ | refine iteEF (by omega) ?_ | refine iteNT (by omega) ?_ | refine iteNF (by omega) ?_); conv => whnf)
    have e2 : (T.take j).flatMap VRow.m ++ (Value.int .i64 m).cells.toList ++ ((T.drop (j + 1)).flatMap VRow.m ++ r2) = (T.set j ⟨x.vid, m, p⟩).flatMap VRow.m ++ r2 := by
      rw [flat_set hj]
      simp only [List.append_assoc]
      rfl
    have e3 : (T.take j).flatMap VRow.p ++ (Value.int .i64 p).cells.toList ++ ((T.drop (j + 1)).flatMap VRow.p ++ r3) = (T.set j ⟨x.vid, m, p⟩).flatMap VRow.p ++ r3 := by
      rw [flat_set hj]
      simp only [List.append_assoc]
      rfl
    have e1 : T.flatMap VRow.v = (T.set j ⟨x.vid, m, p⟩).flatMap VRow.v := by
      rw [flat_set hj, flat_cut (f := VRow.v) hx]
      rfl
    have H : Hp h0 h4 (Res.own (.slice A0 ps.length c0) 76 4 ps.length (ps.flatMap VPort.cells) :: Res.own (.slice A1 T.length c1) 3 1 T.length (T.flatMap VRow.v) :: Res.ob b2 (.cells ((T.take j).flatMap VRow.m ++ (Value.int .i64 m).cells.toList ++ ((T.drop (j + 1)).flatMap VRow.m ++ r2)).toArray 3 (0, 0)) :: Res.ob b3 (.cells ((T.take j).flatMap VRow.p ++ (Value.int .i64 p).cells.toList ++ ((T.drop (j + 1)).flatMap VRow.p ++ r3)).toArray 3 (0, 0)) :: Res.ob g (.cells ([.slice A0 ps.length c0, .slice A1 T.length c1, .slice (some ⟨b2, 0, none⟩) T.length c2, .slice (some ⟨b3, 0, none⟩) T.length c3] : List Value).toArray 56 (0, 0)) :: delN rs i) := H
    rw [e2, e3] at H
    have q2 : ((T.set j ⟨x.vid, m, p⟩).flatMap VRow.m).length = T.length := by rw [flat_length (f := VRow.m) (n := 1) (fun _ => rfl), List.length_set, Nat.mul_one]
    have q3 : ((T.set j ⟨x.vid, m, p⟩).flatMap VRow.p).length = T.length := by rw [flat_length (f := VRow.p) (n := 1) (fun _ => rfl), List.length_set, Nat.mul_one]
    have H := H.slice 2 (b := b2) (e := 3) (size := 1) (n := T.length) (c := c2) (xs := (T.set j ⟨x.vid, m, p⟩).flatMap VRow.m) rfl (by omega) List.take_left (by
      rw [List.length_append, q2]
      rw [List.length_append, t2] at hlen2
      exact hlen2)
    have H := H.slice 3 (b := b3) (e := 3) (size := 1) (n := T.length) (c := c3) (xs := (T.set j ⟨x.vid, m, p⟩).flatMap VRow.p) rfl (by omega) List.take_left (by
      rw [List.length_append, q3]
      rw [List.length_append, t3] at hlen3
      exact hlen3)
    exact ⟨rfl, _, _, _, (vt_close H rfl List.length_set.symm List.length_set.symm List.length_set.symm rfl e1 rfl rfl).unpick hn⟩
  rw [if_neg (by rw [ha]; decide)]
  by_cases c6 : T.length = 64
  · rw [if_pos c6]
    conv => whnf
    repeat ((first | refine cnd_intro (by first | (simp; done) | (simp; omega) | omega | (simp only [Bool.and_eq_true, decide_eq_true_eq]; omega)) ?_ | refine Hp.ld H 0 rfl rfl ?_ | refine Hp.ld H 1 rfl rfl ?_ | refine Hp.ld H 2 rfl rfl ?_ | refine Hp.ld H 3 rfl rfl ?_ | refine Hp.ld H 4 rfl rfl ?_ | refine Hp.ld H 5 rfl rfl ?_ | (refine Hp.st H 0 rfl rfl rfl rfl rfl ?_; intro h H) | (refine Hp.st H 1 rfl rfl rfl rfl rfl ?_; intro h H) | (refine Hp.st H 2 rfl rfl rfl rfl rfl ?_; intro h H) | (refine Hp.st H 3 rfl rfl rfl rfl rfl ?_; intro h H) | (refine Hp.st H 4 rfl rfl rfl rfl rfl ?_; intro h H) | (refine Hp.st H 5 rfl rfl rfl rfl rfl ?_; intro h H) | (intro b h N; replace H := Hp.new H N; clear N) | refine Drawn.mk (by kernel_rfl) ?_ | refine FillK.row rfl ?_ | refine FillK.lit rfl ?_ | refine WrapK.i64 (by omega) (by omega) ?_ | refine WrapK.u64 (by omega) (by omega) ?_ | refine WrapK.u32 (by omega) (by omega) ?_ | refine WrapK.u8 (by omega) (by omega) ?_ | refine iteT (by omega) ?_ | refine iteF (by omega) ?_ | refine iteET (by omega) ?_ | refine iteEF (by omega) ?_ | refine iteNT (by omega) ?_ | refine iteNF (by omega) ?_); conv => whnf)
    exact ⟨rfl, _, _, _, (vt_close H rfl rfl rfl rfl rfl rfl rfl rfl).unpick hn⟩
  rw [if_neg c6]
  conv => whnf
  repeat ((first | refine cnd_intro (by first | (simp; done) | (simp; omega) | omega | (simp only [Bool.and_eq_true, decide_eq_true_eq]; omega)) ?_ | refine Hp.ld H 0 rfl rfl ?_ | refine Hp.ld H 1 rfl rfl ?_ | refine Hp.ld H 2 rfl rfl ?_ | refine Hp.ld H 3 rfl rfl ?_ | refine Hp.ld H 4 rfl rfl ?_ | refine Hp.ld H 5 rfl rfl ?_ | (refine Hp.st H 0 rfl rfl rfl rfl rfl ?_; intro h H) | (refine Hp.st H 1 rfl rfl rfl rfl rfl ?_; intro h H) | (refine Hp.st H 2 rfl rfl rfl rfl rfl ?_; intro h H) | (refine Hp.st H 3 rfl rfl rfl rfl rfl ?_; intro h H) | (refine Hp.st H 4 rfl rfl rfl rfl rfl ?_; intro h H) | (refine Hp.st H 5 rfl rfl rfl rfl rfl ?_; intro h H) | (intro b h N; replace H := Hp.new H N; clear N) | refine FillK.row rfl ?_ | refine FillK.lit rfl ?_ | refine WrapK.i64 (by omega) (by omega) ?_ | refine WrapK.u64 (by omega) (by omega) ?_ | refine WrapK.u32 (by omega) (by omega) ?_ | refine WrapK.u8 (by omega) (by omega) ?_ | refine iteT (by omega) ?_ | refine iteF (by omega) ?_ | refine iteET (by omega) ?_ | refine iteEF (by omega) ?_ | refine iteNT (by omega) ?_ | refine iteNF (by omega) ?_); conv => whnf)
  refine Drawn.keys [0, 1, 2, 3, 4, 5, 7, 10, 11, 12, 14, 17, 18, 19, 21, 24, 25, 27, 28, 30, 31] [(6, []), (8, []), (9, [6, 8]), (13, []), (15, []), (16, [13, 15, 9, 6, 8]), (20, []), (22, []), (23, [20, 22, 16, 13, 15, 9, 6, 8])] [26, 29, 32] (by kernel_rfl) ?_
  conv => whnf
  repeat ((first | refine cnd_intro (by first | (simp; done) | (simp; omega) | omega | (simp only [Bool.and_eq_true, decide_eq_true_eq]; omega)) ?_ | refine Hp.ld H 0 rfl rfl ?_ | refine Hp.ld H 1 rfl rfl ?_ | refine Hp.ld H 2 rfl rfl ?_ | refine Hp.ld H 3 rfl rfl ?_ | refine Hp.ld H 4 rfl rfl ?_ | refine Hp.ld H 5 rfl rfl ?_ | (refine Hp.st H 0 rfl rfl rfl rfl rfl ?_; intro h H) | (refine Hp.st H 1 rfl rfl rfl rfl rfl ?_; intro h H) | (refine Hp.st H 2 rfl rfl rfl rfl rfl ?_; intro h H) | (refine Hp.st H 3 rfl rfl rfl rfl rfl ?_; intro h H) | (refine Hp.st H 4 rfl rfl rfl rfl rfl ?_; intro h H) | (refine Hp.st H 5 rfl rfl rfl rfl rfl ?_; intro h H) | (intro b h N; replace H := Hp.new H N; clear N) | refine Drawn.mk (by kernel_rfl) ?_ | refine FillK.row rfl ?_ | refine FillK.lit rfl ?_ | refine WrapK.i64 (by omega) (by omega) ?_ | refine WrapK.u64 (by omega) (by omega) ?_ | refine WrapK.u32 (by omega) (by omega) ?_ | refine WrapK.u8 (by omega) (by omega) ?_ | refine iteT (by omega) ?_ | refine iteF (by omega) ?_ | refine iteET (by omega) ?_ | refine iteEF (by omega) ?_ | refine iteNT (by omega) ?_ | refine iteNF (by omega) ?_); conv => whnf)
  refine ⟨fun D val h => (D 6 = true → val 6 = .slice A1 T.length c1) ∧ (D 13 = true → val 13 = .slice A2 T.length c2) ∧ (D 20 = true → val 20 = .slice A3 T.length c3) ∧
    Hp h0 h (Res.opt (D 8) (Res.own (val 8) 3 1 1 [.int .i64 v]) :: Res.opt (D 15) (Res.own (val 15) 3 1 1 [.int .i64 m]) :: Res.opt (D 22) (Res.own (val 22) 3 1 1 [.int .i64 p]) :: Res.own (.slice A0 ps.length c0) 76 4 ps.length (ps.flatMap VPort.cells) ::
      cond (D 9) (Res.own (val 9) 3 1 (T.length + 1) (T.flatMap VRow.v ++ [.int .i64 v])) (Res.own (.slice A1 T.length c1) 3 1 T.length (T.flatMap VRow.v)) ::
      cond (D 16) (Res.own (val 16) 3 1 (T.length + 1) (T.flatMap VRow.m ++ [.int .i64 m])) (Res.own (.slice A2 T.length c2) 3 1 T.length (T.flatMap VRow.m)) ::
      cond (D 23) (Res.own (val 23) 3 1 (T.length + 1) (T.flatMap VRow.p ++ [.int .i64 p])) (Res.own (.slice A3 T.length c3) 3 1 T.length (T.flatMap VRow.p)) ::
      Res.ob g (.cells ([.slice A0 ps.length c0, .slice A1 T.length c1, .slice A2 T.length c2, .slice A3 T.length c3] : List Value).toArray 56 (0, 0)) :: delN rs i), fun _ => .bool false,
    ⟨fun h => absurd (show false = true from h) (by decide), fun h => absurd (show false = true from h) (by decide), fun h => absurd (show false = true from h) (by decide), H.emp.emp.emp⟩, And.intro ?_ (And.intro ?_ (And.intro ?_ (And.intro ?_ (And.intro ?_ (And.intro ?_ (And.intro ?_ (And.intro ?_ (And.intro ?_ trivial)))))))), ?_⟩
  · rintro D val h4 ⟨v6, v13, v20, H⟩
    conv => whnf
    refine Hp.ld H 7 rfl rfl ?_
    exact ⟨fun _ => rfl, v13, v20, H⟩
  · rintro D val h4 ⟨v6, v13, v20, H⟩
    conv => whnf
    refine FillK.row rfl ?_
    conv => whnf
    intro b1 h5 N
    exact ⟨v6, v13, v20, ((H.new N).whole 0 (n := 1) (size := 1) (xs := [.int .i64 v]) rfl rfl).fill 0 rfl⟩
  · rintro D val h4 ⟨v6, v13, v20, H⟩
    obtain ⟨B, cb, hv⟩ := own_shape (H.get 0 rfl)
    have hrow := OwnS.row (h := h4) (D := 0) (c := cb) (A := B) (by rw [← hv]; exact H.get 0 rfl)
    conv => whnf
    rw [v6 rfl]
    refine Hp.append' EW_ok (H := H) (i := 4) (B := B) (m := 1) (c := cb) (z := i64T) rfl hv hrow rfl (fun e => by rw [e] at hrow; rcases hrow.out with e | ⟨b, o, _, _, _, e, _⟩ <;> cases e) rfl rfl rfl rfl rfl rfl rfl (fun k h => by cases h) (by show _ * 8 ≤ _; omega) (by decide) (by decide) ?_
    intro v' h5 H
    exact ⟨v6, v13, v20, H⟩
  · rintro D val h4 ⟨v6, v13, v20, H⟩
    conv => whnf
    refine Hp.ld H 7 rfl rfl ?_
    exact ⟨v6, fun _ => rfl, v20, H⟩
  · rintro D val h4 ⟨v6, v13, v20, H⟩
    conv => whnf
    refine FillK.row rfl ?_
    conv => whnf
    intro b1 h5 N
    exact ⟨v6, v13, v20, ((H.new N).whole 0 (n := 1) (size := 1) (xs := [.int .i64 m]) rfl rfl).fill 1 rfl⟩
  · rintro D val h4 ⟨v6, v13, v20, H⟩
    obtain ⟨B, cb, hv⟩ := own_shape (H.get 1 rfl)
    have hrow := OwnS.row (h := h4) (D := 0) (c := cb) (A := B) (by rw [← hv]; exact H.get 1 rfl)
    conv => whnf
    rw [v13 rfl]
    refine Hp.append' EW_ok (H := H) (i := 5) (B := B) (m := 1) (c := cb) (z := i64T) rfl hv hrow rfl (fun e => by rw [e] at hrow; rcases hrow.out with e | ⟨b, o, _, _, _, e, _⟩ <;> cases e) rfl rfl rfl rfl rfl rfl rfl (fun k h => by cases h) (by show _ * 8 ≤ _; omega) (by decide) (by decide) ?_
    intro v' h5 H
    exact ⟨v6, v13, v20, H⟩
  · rintro D val h4 ⟨v6, v13, v20, H⟩
    conv => whnf
    refine Hp.ld H 7 rfl rfl ?_
    exact ⟨v6, v13, fun _ => rfl, H⟩
  · rintro D val h4 ⟨v6, v13, v20, H⟩
    conv => whnf
    refine FillK.row rfl ?_
    conv => whnf
    intro b1 h5 N
    exact ⟨v6, v13, v20, ((H.new N).whole 0 (n := 1) (size := 1) (xs := [.int .i64 p]) rfl rfl).fill 2 rfl⟩
  · rintro D val h4 ⟨v6, v13, v20, H⟩
    obtain ⟨B, cb, hv⟩ := own_shape (H.get 2 rfl)
    have hrow := OwnS.row (h := h4) (D := 0) (c := cb) (A := B) (by rw [← hv]; exact H.get 2 rfl)
    conv => whnf
    rw [v20 rfl]
    refine Hp.append' EW_ok (H := H) (i := 6) (B := B) (m := 1) (c := cb) (z := i64T) rfl hv hrow rfl (fun e => by rw [e] at hrow; rcases hrow.out with e | ⟨b, o, _, _, _, e, _⟩ <;> cases e) rfl rfl rfl rfl rfl rfl rfl (fun k h => by cases h) (by show _ * 8 ≤ _; omega) (by decide) (by decide) ?_
    intro v' h5 H
    exact ⟨v6, v13, v20, H⟩
  · rintro val h4 ⟨v6, v13, v20, H⟩
    have H : Hp h0 h4 (Res.own (.slice A0 ps.length c0) 76 4 ps.length (ps.flatMap VPort.cells) :: Res.own (val 9) 3 1 (T.length + 1) (T.flatMap VRow.v ++ [.int .i64 v]) :: Res.own (val 16) 3 1 (T.length + 1) (T.flatMap VRow.m ++ [.int .i64 m]) :: Res.own (val 23) 3 1 (T.length + 1) (T.flatMap VRow.p ++ [.int .i64 p]) ::
      Res.ob g (.cells ([.slice A0 ps.length c0, .slice A1 T.length c1, .slice A2 T.length c2, .slice A3 T.length c3] : List Value).toArray 56 (0, 0)) :: delN rs i) := ((H.drop 0).drop 0).drop 0
    obtain ⟨B9, c9, hv9⟩ := own_shape (H.get 1 rfl)
    obtain ⟨B16, c16, hv16⟩ := own_shape (H.get 2 rfl)
    obtain ⟨B23, c23, hv23⟩ := own_shape (H.get 3 rfl)
    conv => whnf
    refine Hp.stAt H 4 rfl (y := isT) (o := 1) rfl rfl (by rw [hv9]; rfl) (by rw [hv9]; rfl) rfl (by show 1 < 4; decide) ?_
    clear H
    intro h5 H
    conv => whnf
    refine Hp.stAt H 4 rfl (y := isT) (o := 2) rfl rfl (by rw [hv16]; rfl) (by rw [hv16]; rfl) rfl (by show 2 < 4; decide) ?_
    clear H
    intro h6 H
    conv => whnf
    refine Hp.stAt H 4 rfl (y := isT) (o := 3) rfl rfl (by rw [hv23]; rfl) (by rw [hv23]; rfl) rfl (by show 3 < 4; decide) ?_
    clear H
    intro h7 H
    conv => whnf
    repeat ((first | refine cnd_intro (by first | (simp; done) | (simp; omega) | omega | (simp only [Bool.and_eq_true, decide_eq_true_eq]; omega)) ?_ | refine Hp.ld H 0 rfl rfl ?_ | refine Hp.ld H 1 rfl rfl ?_ | refine Hp.ld H 2 rfl rfl ?_ | refine Hp.ld H 3 rfl rfl ?_ | refine Hp.ld H 4 rfl rfl ?_ | refine Hp.ld H 5 rfl rfl ?_ | (refine Hp.st H 0 rfl rfl rfl rfl rfl ?_; intro h H) | (refine Hp.st H 1 rfl rfl rfl rfl rfl ?_; intro h H) | (refine Hp.st H 2 rfl rfl rfl rfl rfl ?_; intro h H) | (refine Hp.st H 3 rfl rfl rfl rfl rfl ?_; intro h H) | (refine Hp.st H 4 rfl rfl rfl rfl rfl ?_; intro h H) | (refine Hp.st H 5 rfl rfl rfl rfl rfl ?_; intro h H) | (intro b h N; replace H := Hp.new H N; clear N) | refine Drawn.mk (by kernel_rfl) ?_ | refine FillK.row rfl ?_ | refine FillK.lit rfl ?_ | refine WrapK.i64 (by omega) (by omega) ?_ | refine WrapK.u64 (by omega) (by omega) ?_ | refine WrapK.u32 (by omega) (by omega) ?_ | refine WrapK.u8 (by omega) (by omega) ?_ | refine iteT (by omega) ?_ | refine iteF (by omega) ?_ | refine iteET (by omega) ?_ | refine iteEF (by omega) ?_ | refine iteNT (by omega) ?_ | refine iteNF (by omega) ?_); conv => whnf)
    exact ⟨rfl, val 9, val 16, val 23, (vt_close H rfl (by simp) (by simp) (by simp) rfl (by simp [VRow.v]) (by simp [VRow.m]) (by simp [VRow.p])).unpick hn⟩

end Go.Proofs.Ytcjilkemfmhkgaa
