import Derived.Test.YtcjilkemfmhkgaaFdb4
namespace Go.Proofs.Ytcjilkemfmhkgaa
open Go.Vc
set_option maxRecDepth 10000
set_option maxHeartbeats 4000000

/-! ### fdb: a station is heard -/

def learnF (room age v : Int) (m : Mac6) (port now : Int) (E : List FEnt) (lost : Int) : Nat × List FEnt × Int :=
  if m.group = true then (4, E, lost)
  else
    if (E.filter fun y => !(y.old age now)).any (FEnt.key v m) = true then (0, ((E.filter fun y => !(y.old age now)).filter fun y => !(y.key v m)) ++ [⟨v, m, port, now⟩], lost)
    else if ((E.filter fun y => !(y.old age now)).length : Int) = room then (20, (E.filter fun y => !(y.old age now)), lost + 1) else (0, (E.filter fun y => !(y.old age now)) ++ [⟨v, m, port, now⟩], lost)

theorem erase_key {v : Int} {m : Mac6} : ∀ {E : List FEnt} {i : Nat} {x : FEnt}, E.Pairwise (fun x y => ¬ (x.vid = y.vid ∧ x.mac = y.mac)) → E[i]? = some x → x.key v m = true → E.eraseIdx i = E.filter fun y => !(y.key v m)
  | [], _, _, _, h, _ => by simp at h
  | y :: r, 0, x, hp, h, hv => by
    simp only [List.getElem?_cons_zero, Option.some.injEq] at h
    subst h
    rw [List.pairwise_cons] at hp
    rw [List.filter_cons, hv]
    simp only [Bool.not_true, Bool.false_eq_true, if_false, List.eraseIdx_cons_zero]
    symm
    rw [List.filter_eq_self]
    intro z hz
    have hy := of_decide_eq_true hv
    have : z.key v m = false := decide_eq_false fun e => hp.1 z hz ⟨hy.1.trans e.1.symm, hy.2.trans e.2.symm⟩
    rw [this]
    rfl
  | y :: r, i + 1, x, hp, h, hv => by
    simp only [List.getElem?_cons_succ] at h
    rw [List.pairwise_cons] at hp
    have hx := of_decide_eq_true hv
    have : y.key v m = false := decide_eq_false fun e => hp.1 x (List.mem_of_getElem? h) ⟨e.1.trans hx.1.symm, e.2.trans hx.2.symm⟩
    rw [List.filter_cons, this]
    simp only [Bool.not_false, if_true, List.eraseIdx_cons_succ]
    congr 1
    exact erase_key hp.2 h hv

def feT : Ty := ⟨.slice 85, 1, 24, false, some (.slice none 0 0)⟩

theorem learn_call {h0 h : Heap} {rs : List Res} (H : Hp h0 h rs) (i g : Nat) (s : Value) (E : List FEnt) (room age lost v port now : Int) (m : Mac6) (hn : nth rs i = some (Res.ft g s E room age lost)) (hg : GoodE E) (hn1 : 0 ≤ now) (hn2 : now ≤ 1152921504606846976) (hlo : 0 ≤ lost ∧ lost ≤ 1000000) :
    CallK Try.prog 21 #[.pointer (some ⟨g, 0, none⟩), .int .i64 v, .agg m.cells.toArray, .int .i64 port, .int .i64 now] h fun w h' => w = .int .i64 ((learnF room age v m port now E lost).1 : Nat) ∧ ∃ s', Hp h0 h' (setN rs i (Res.ft g s' (learnF room age v m port now E lost).2.1 room age (learnF room age v m port now E lost).2.2)) := by
  refine CallK.of_vc EW_ok [0, 1, 2, 3, 4, 7, 10, 11, 12, 14, 28, 52] Try.func21 rfl (Nat.le_of_ble_eq_true rfl) ?_
  have H : Hp h0 h (Res.ft g s E room age lost :: delN rs i) := H.pick i hn
  conv => whnf
  intro g1 h1 N
  replace H := H.new N
  clear N
  conv => whnf
  repeat ((first | refine cnd_intro (by first | (simp; done) | (simp; omega) | omega | (simp only [Bool.and_eq_true, decide_eq_true_eq]; omega)) ?_ | refine Hp.ld H 0 rfl rfl ?_ | refine Hp.ld H 1 rfl rfl ?_ | refine Hp.ld H 2 rfl rfl ?_ | refine Hp.ld H 3 rfl rfl ?_ | refine Hp.ld H 4 rfl rfl ?_ | refine Hp.ld H 5 rfl rfl ?_ | (refine Hp.st H 0 rfl rfl rfl rfl rfl ?_; intro h H) | (refine Hp.st H 1 rfl rfl rfl rfl rfl ?_; intro h H) | (refine Hp.st H 2 rfl rfl rfl rfl rfl ?_; intro h H) | (refine Hp.st H 3 rfl rfl rfl rfl rfl ?_; intro h H) | (refine Hp.st H 4 rfl rfl rfl rfl rfl ?_; intro h H) | (refine Hp.st H 5 rfl rfl rfl rfl rfl ?_; intro h H) | (intro b h N; replace H := Hp.new H N; clear N) | refine Drawn.mk (by kernel_rfl) ?_ | refine FillK.row rfl ?_ | refine FillK.lit rfl ?_ | refine WrapK.i64 (by omega) (by omega) ?_ | refine WrapK.u64 (by omega) (by omega) ?_ | refine WrapK.u32 (by omega) (by omega) ?_ | refine WrapK.u8 (by omega) (by omega) ?_ | refine iteT (by omega) ?_ | refine iteF (by omega) ?_ | refine iteET (by omega) ?_ | refine iteEF (by omega) ?_ | refine iteNT (by omega) ?_ | refine iteNF (by omega) ?_); conv => whnf)
  refine CallK.mono (group_call _ m) ?_
  rintro _ h2 ⟨k2, rfl⟩
  replace H := H.and k2
  cases hgm : m.group with
  | true =>
    rw [show learnF room age v m port now E lost = (4, E, lost) by unfold learnF; rw [if_pos hgm]]
    conv => whnf
    repeat ((first | refine cnd_intro (by first | (simp; done) | (simp; omega) | omega | (simp only [Bool.and_eq_true, decide_eq_true_eq]; omega)) ?_ | refine Hp.ld H 0 rfl rfl ?_ | refine Hp.ld H 1 rfl rfl ?_ | refine Hp.ld H 2 rfl rfl ?_ | refine Hp.ld H 3 rfl rfl ?_ | refine Hp.ld H 4 rfl rfl ?_ | refine Hp.ld H 5 rfl rfl ?_ | (refine Hp.st H 0 rfl rfl rfl rfl rfl ?_; intro h H) | (refine Hp.st H 1 rfl rfl rfl rfl rfl ?_; intro h H) | (refine Hp.st H 2 rfl rfl rfl rfl rfl ?_; intro h H) | (refine Hp.st H 3 rfl rfl rfl rfl rfl ?_; intro h H) | (refine Hp.st H 4 rfl rfl rfl rfl rfl ?_; intro h H) | (refine Hp.st H 5 rfl rfl rfl rfl rfl ?_; intro h H) | (intro b h N; replace H := Hp.new H N; clear N) | refine Drawn.mk (by kernel_rfl) ?_ | refine FillK.row rfl ?_ | refine FillK.lit rfl ?_ | refine WrapK.i64 (by omega) (by omega) ?_ | refine WrapK.u64 (by omega) (by omega) ?_ | refine WrapK.u32 (by omega) (by omega) ?_ | refine WrapK.u8 (by omega) (by omega) ?_ | refine iteT (by omega) ?_ | refine iteF (by omega) ?_ | refine iteET (by omega) ?_ | refine iteEF (by omega) ?_ | refine iteNT (by omega) ?_ | refine iteNF (by omega) ?_); conv => whnf)
    exact ⟨rfl, _, (H.drop 0).unpick hn⟩
  | false =>
  have hlf : learnF room age v m port now E lost = if (E.filter fun y => !(y.old age now)).any (FEnt.key v m) = true then (0, ((E.filter fun y => !(y.old age now)).filter fun y => !(y.key v m)) ++ [⟨v, m, port, now⟩], lost)
    else if ((E.filter fun y => !(y.old age now)).length : Int) = room then (20, (E.filter fun y => !(y.old age now)), lost + 1) else (0, (E.filter fun y => !(y.old age now)) ++ [⟨v, m, port, now⟩], lost) := by
    unfold learnF; rw [if_neg (by rw [hgm]; decide)]
  rw [hlf]
  clear hlf
  have hg2 := hg.filter fun y => !(y.old age now)
  conv => whnf
  repeat ((first | refine cnd_intro (by first | (simp; done) | (simp; omega) | omega | (simp only [Bool.and_eq_true, decide_eq_true_eq]; omega)) ?_ | refine Hp.ld H 0 rfl rfl ?_ | refine Hp.ld H 1 rfl rfl ?_ | refine Hp.ld H 2 rfl rfl ?_ | refine Hp.ld H 3 rfl rfl ?_ | refine Hp.ld H 4 rfl rfl ?_ | refine Hp.ld H 5 rfl rfl ?_ | (refine Hp.st H 0 rfl rfl rfl rfl rfl ?_; intro h H) | (refine Hp.st H 1 rfl rfl rfl rfl rfl ?_; intro h H) | (refine Hp.st H 2 rfl rfl rfl rfl rfl ?_; intro h H) | (refine Hp.st H 3 rfl rfl rfl rfl rfl ?_; intro h H) | (refine Hp.st H 4 rfl rfl rfl rfl rfl ?_; intro h H) | (refine Hp.st H 5 rfl rfl rfl rfl rfl ?_; intro h H) | (intro b h N; replace H := Hp.new H N; clear N) | refine Drawn.mk (by kernel_rfl) ?_ | refine FillK.row rfl ?_ | refine FillK.lit rfl ?_ | refine WrapK.i64 (by omega) (by omega) ?_ | refine WrapK.u64 (by omega) (by omega) ?_ | refine WrapK.u32 (by omega) (by omega) ?_ | refine WrapK.u8 (by omega) (by omega) ?_ | refine iteT (by omega) ?_ | refine iteF (by omega) ?_ | refine iteET (by omega) ?_ | refine iteEF (by omega) ?_ | refine iteNT (by omega) ?_ | refine iteNF (by omega) ?_); conv => whnf)
  refine CallK.mono (fsweep_call H 1 g s E room age lost now rfl hg hn1 hn2) ?_
  rintro _ h3 ⟨rfl, s1, H⟩
  generalize (E.filter fun y => !(y.old age now)) = E1 at *
  have hl1 := hg2.len
  replace H : Hp h0 h3 (Res.ob g1 (.cells m.cells.toArray 36 (0, 0)) :: Res.ft g s1 E1 room age lost :: delN rs i) := H
  conv => whnf
  repeat ((first | refine cnd_intro (by first | (simp; done) | (simp; omega) | omega | (simp only [Bool.and_eq_true, decide_eq_true_eq]; omega)) ?_ | refine Hp.ld H 0 rfl rfl ?_ | refine Hp.ld H 1 rfl rfl ?_ | refine Hp.ld H 2 rfl rfl ?_ | refine Hp.ld H 3 rfl rfl ?_ | refine Hp.ld H 4 rfl rfl ?_ | refine Hp.ld H 5 rfl rfl ?_ | (refine Hp.st H 0 rfl rfl rfl rfl rfl ?_; intro h H) | (refine Hp.st H 1 rfl rfl rfl rfl rfl ?_; intro h H) | (refine Hp.st H 2 rfl rfl rfl rfl rfl ?_; intro h H) | (refine Hp.st H 3 rfl rfl rfl rfl rfl ?_; intro h H) | (refine Hp.st H 4 rfl rfl rfl rfl rfl ?_; intro h H) | (refine Hp.st H 5 rfl rfl rfl rfl rfl ?_; intro h H) | refine Drawn.mk (by kernel_rfl) ?_ | refine WrapK.i64 (by omega) (by omega) ?_ | refine WrapK.u64 (by omega) (by omega) ?_ | refine WrapK.u32 (by omega) (by omega) ?_ | refine WrapK.u8 (by omega) (by omega) ?_ | refine iteT (by omega) ?_ | refine iteF (by omega) ?_ | refine iteET (by omega) ?_ | refine iteEF (by omega) ?_ | refine iteNT (by omega) ?_ | refine iteNF (by omega) ?_); conv => whnf)
  refine FillK.lit rfl ?_
  conv => whnf
  intro g2 h4 N
  replace H := H.new N
  clear N
  conv => whnf
  repeat ((first | refine cnd_intro (by first | (simp; done) | (simp; omega) | omega | (simp only [Bool.and_eq_true, decide_eq_true_eq]; omega)) ?_ | refine Hp.ld H 0 rfl rfl ?_ | refine Hp.ld H 1 rfl rfl ?_ | refine Hp.ld H 2 rfl rfl ?_ | refine Hp.ld H 3 rfl rfl ?_ | refine Hp.ld H 4 rfl rfl ?_ | refine Hp.ld H 5 rfl rfl ?_ | (refine Hp.st H 0 rfl rfl rfl rfl rfl ?_; intro h H) | (refine Hp.st H 1 rfl rfl rfl rfl rfl ?_; intro h H) | (refine Hp.st H 2 rfl rfl rfl rfl rfl ?_; intro h H) | (refine Hp.st H 3 rfl rfl rfl rfl rfl ?_; intro h H) | (refine Hp.st H 4 rfl rfl rfl rfl rfl ?_; intro h H) | (refine Hp.st H 5 rfl rfl rfl rfl rfl ?_; intro h H) | (intro b h N; replace H := Hp.new H N; clear N) | refine Drawn.mk (by kernel_rfl) ?_ | refine FillK.row rfl ?_ | refine FillK.lit rfl ?_ | refine WrapK.i64 (by omega) (by omega) ?_ | refine WrapK.u64 (by omega) (by omega) ?_ | refine WrapK.u32 (by omega) (by omega) ?_ | refine WrapK.u8 (by omega) (by omega) ?_ | refine iteT (by omega) ?_ | refine iteF (by omega) ?_ | refine iteET (by omega) ?_ | refine iteEF (by omega) ?_ | refine iteNT (by omega) ?_ | refine iteNF (by omega) ?_); conv => whnf)
  refine CallK.mono (fat_call _ g s1 E1 room age lost v m (ft_view (i := 2) H rfl) (by omega)) ?_
  rintro _ h5 ⟨k5, n, rfl, hfa⟩
  replace H := H.and k5
  have HH : Hp h0 h5 (Res.own s1 85 9 E1.length (E1.flatMap FEnt.cells) :: Res.emp :: Res.ob g2 (.cells (FEnt.cells ⟨v, m, port, now⟩).toArray 85 (0, 0)) :: Res.ob g1 (.cells m.cells.toArray 36 (0, 0)) :: Res.ob g (.cells (ftCells s1 room age lost).toArray 79 (0, 0)) :: delN rs i) := by
    have H1 : Hp h0 h5 (Res.ft g s1 E1 room age lost :: Res.ob g2 (.cells (FEnt.cells ⟨v, m, port, now⟩).toArray 85 (0, 0)) :: Res.ob g1 (.cells m.cells.toArray 36 (0, 0)) :: delN rs i) := H.pick 2 rfl
    have H2 := H1.unpair.emp
    exact H2.sub ⟨[], by
      rw [List.append_nil]
      refine (List.Perm.swap _ _ _).trans (List.Perm.cons _ (List.Perm.cons _ ?_))
      exact List.perm_middle (l₁ := [_, _])⟩
  repeat clear H
  have H := HH
  clear HH
  obtain ⟨A, c, rfl⟩ := own_shape (H.get 0 rfl)
  rcases hfa with ⟨rfl, ha⟩ | ⟨j, x, rfl, hx, hp, ha⟩
  case inr =>
    have hj : j < E1.length := by
      rcases Nat.lt_or_ge j E1.length with h | h
      · exact h
      · rw [List.getElem?_eq_none h] at hx; cases hx
    have hany : E1.any (FEnt.key v m) = true := List.any_eq_true.2 ⟨x, List.mem_of_getElem? hx, hp⟩
    rw [if_pos hany, ← erase_key hg2.apart hx hp]
    have hle : (E1.eraseIdx j).length = E1.length - 1 := by rw [List.length_eraseIdx, if_pos hj]
    conv => whnf
    repeat ((first | refine cnd_intro (by first | (simp; done) | (simp; omega) | omega | (simp only [Bool.and_eq_true, decide_eq_true_eq]; omega)) ?_ | refine Hp.ld H 0 rfl rfl ?_ | refine Hp.ld H 1 rfl rfl ?_ | refine Hp.ld H 2 rfl rfl ?_ | refine Hp.ld H 3 rfl rfl ?_ | refine Hp.ld H 4 rfl rfl ?_ | refine Hp.ld H 5 rfl rfl ?_ | (refine Hp.st H 0 rfl rfl rfl rfl rfl ?_; intro h H) | (refine Hp.st H 1 rfl rfl rfl rfl rfl ?_; intro h H) | (refine Hp.st H 2 rfl rfl rfl rfl rfl ?_; intro h H) | (refine Hp.st H 3 rfl rfl rfl rfl rfl ?_; intro h H) | (refine Hp.st H 4 rfl rfl rfl rfl rfl ?_; intro h H) | (refine Hp.st H 5 rfl rfl rfl rfl rfl ?_; intro h H) | (intro b h N; replace H := Hp.new H N; clear N) | refine FillK.row rfl ?_ | refine FillK.lit rfl ?_ | refine WrapK.i64 (by omega) (by omega) ?_ | refine WrapK.u64 (by omega) (by omega) ?_ | refine WrapK.u32 (by omega) (by omega) ?_ | refine WrapK.u8 (by omega) (by omega) ?_ | refine iteT (by omega) ?_ | refine iteF (by omega) ?_ | refine iteET (by omega) ?_ | refine iteEF (by omega) ?_ | refine iteNT (by omega) ?_ | refine iteNF (by omega) ?_); conv => whnf)
    refine Drawn.keys [0, 1, 2, 3, 5, 6, 7, 12, 13] [(4, []), (8, [4]), (9, []), (10, [9]), (11, [8, 10, 4, 9])] [14] (by kernel_rfl) ?_
    conv => whnf
    repeat ((first | refine cnd_intro (by first | (simp; done) | (simp; omega) | omega | (simp only [Bool.and_eq_true, decide_eq_true_eq]; omega)) ?_ | refine Hp.ld H 0 rfl rfl ?_ | refine Hp.ld H 1 rfl rfl ?_ | refine Hp.ld H 2 rfl rfl ?_ | refine Hp.ld H 3 rfl rfl ?_ | refine Hp.ld H 4 rfl rfl ?_ | refine Hp.ld H 5 rfl rfl ?_ | (refine Hp.st H 0 rfl rfl rfl rfl rfl ?_; intro h H) | (refine Hp.st H 1 rfl rfl rfl rfl rfl ?_; intro h H) | (refine Hp.st H 2 rfl rfl rfl rfl rfl ?_; intro h H) | (refine Hp.st H 3 rfl rfl rfl rfl rfl ?_; intro h H) | (refine Hp.st H 4 rfl rfl rfl rfl rfl ?_; intro h H) | (refine Hp.st H 5 rfl rfl rfl rfl rfl ?_; intro h H) | (intro b h N; replace H := Hp.new H N; clear N) | refine Drawn.mk (by kernel_rfl) ?_ | refine FillK.row rfl ?_ | refine FillK.lit rfl ?_ | refine WrapK.i64 (by omega) (by omega) ?_ | refine WrapK.u64 (by omega) (by omega) ?_ | refine WrapK.u32 (by omega) (by omega) ?_ | refine WrapK.u8 (by omega) (by omega) ?_ | refine iteT (by omega) ?_ | refine iteF (by omega) ?_ | refine iteET (by omega) ?_ | refine iteEF (by omega) ?_ | refine iteNT (by omega) ?_ | refine iteNF (by omega) ?_); conv => whnf)
    refine ⟨fun D val h => (D 4 = true → val 4 = .slice A E1.length c) ∧ (D 9 = true → val 9 = .agg (FEnt.cells ⟨v, m, port, now⟩).toArray) ∧ Hp h0 h (cond (D 11) (Res.own (val 11) 85 9 ((E1.eraseIdx j).length + 1) ((E1.eraseIdx j).flatMap FEnt.cells ++ FEnt.cells ⟨v, m, port, now⟩)) (cond (D 8) (Res.own (val 8) 85 9 (E1.eraseIdx j).length ((E1.eraseIdx j).flatMap FEnt.cells)) (Res.own (.slice A E1.length c) 85 9 E1.length (E1.flatMap FEnt.cells))) ::
      Res.opt (D 10) (Res.own (val 10) 85 9 1 (FEnt.cells ⟨v, m, port, now⟩)) :: Res.ob g2 (.cells (FEnt.cells ⟨v, m, port, now⟩).toArray 85 (0, 0)) :: Res.ob g1 (.cells m.cells.toArray 36 (0, 0)) :: Res.ob g (.cells (ftCells (.slice A E1.length c) room age lost).toArray 79 (0, 0)) :: delN rs i), fun _ => .bool false,
      ⟨fun h => absurd (show false = true from h) (by decide), fun h => absurd (show false = true from h) (by decide), H⟩, And.intro ?_ (And.intro ?_ (And.intro ?_ (And.intro ?_ (And.intro ?_ trivial)))), ?_⟩
    · rintro D val h6 ⟨v4, v9, H⟩
      conv => whnf
      refine Hp.ld H 4 rfl rfl ?_
      exact ⟨fun _ => rfl, v9, H⟩
    · rintro D val h6 ⟨v4, v9, H⟩
      conv => whnf
      rw [v4 rfl]
      refine CallK.mono (fdelete_call H j hj (by omega)) ?_
      rintro v' h7 H
      exact ⟨v4, v9, H⟩
    · rintro D val h6 ⟨v4, v9, H⟩
      conv => whnf
      refine Hp.ld H 2 rfl rfl ?_
      exact ⟨v4, fun _ => rfl, H⟩
    · rintro D val h6 ⟨v4, v9, H⟩
      conv => whnf
      rw [v9 rfl]
      refine FillK.row rfl ?_
      conv => whnf
      intro b1 h7 N
      exact ⟨v4, v9, ((H.new N).whole 0 (n := 1) (size := 9) (xs := FEnt.cells ⟨v, m, port, now⟩) rfl rfl).fill 1 rfl⟩
    · rintro D val h6 ⟨v4, v9, H⟩
      obtain ⟨B, cb, hv⟩ := own_shape (H.get 1 rfl)
      have hrow := OwnS.row (h := h6) (D := 0) (c := cb) (A := B) (by rw [← hv]; exact H.get 1 rfl)
      conv => whnf
      refine Hp.append' EW_ok (H := H) (i := 0) (B := B) (m := 1) (c := cb) (z := fentT) rfl hv hrow rfl (fun e => by rw [e] at hrow; rcases hrow.out with e | ⟨b, o, _, _, _, e, _⟩ <;> cases e) rfl rfl rfl rfl rfl rfl rfl (fun k h => by cases h) (by show _ * 32 ≤ _; omega) (by decide) (by decide) ?_
      intro v' h7 H
      exact ⟨v4, v9, H⟩
    clear H
    rintro val h6 ⟨_, _, H⟩
    have H : Hp h0 h6 (Res.own (val 11) 85 9 ((E1.eraseIdx j).length + 1) ((E1.eraseIdx j).flatMap FEnt.cells ++ FEnt.cells ⟨v, m, port, now⟩) :: Res.own (val 10) 85 9 1 (FEnt.cells ⟨v, m, port, now⟩) :: Res.ob g2 (.cells (FEnt.cells ⟨v, m, port, now⟩).toArray 85 (0, 0)) :: Res.ob g1 (.cells m.cells.toArray 36 (0, 0)) :: Res.ob g (.cells (ftCells (.slice A E1.length c) room age lost).toArray 79 (0, 0)) :: delN rs i) := H
    obtain ⟨A6, c6, hv6⟩ := own_shape (H.get 0 rfl)
    conv => whnf
    refine Hp.stAt H 4 rfl (y := feT) (o := 0) rfl rfl (by rw [hv6]; rfl) (by rw [hv6]; rfl) rfl (by show 0 < 4; decide) ?_
    clear H
    intro h7 H
    have H : Hp h0 h7 (Res.own (val 11) 85 9 ((E1.eraseIdx j).length + 1) ((E1.eraseIdx j).flatMap FEnt.cells ++ FEnt.cells ⟨v, m, port, now⟩) :: Res.own (val 10) 85 9 1 (FEnt.cells ⟨v, m, port, now⟩) :: Res.ob g2 (.cells (FEnt.cells ⟨v, m, port, now⟩).toArray 85 (0, 0)) :: Res.ob g1 (.cells m.cells.toArray 36 (0, 0)) :: Res.ob g (.cells (ftCells (val 11) room age lost).toArray 79 (0, 0)) :: delN rs i) := H
    have e1 : (E1.eraseIdx j).length + 1 = (E1.eraseIdx j ++ [(⟨v, m, port, now⟩ : FEnt)]).length := by simp
    have e2 : (E1.eraseIdx j).flatMap FEnt.cells ++ FEnt.cells ⟨v, m, port, now⟩ = (E1.eraseIdx j ++ [(⟨v, m, port, now⟩ : FEnt)]).flatMap FEnt.cells := by simp
    rw [e1, e2] at H
    conv => whnf
    repeat ((first | refine cnd_intro (by first | (simp; done) | (simp; omega) | omega | (simp only [Bool.and_eq_true, decide_eq_true_eq]; omega)) ?_ | refine Hp.ld H 0 rfl rfl ?_ | refine Hp.ld H 1 rfl rfl ?_ | refine Hp.ld H 2 rfl rfl ?_ | refine Hp.ld H 3 rfl rfl ?_ | refine Hp.ld H 4 rfl rfl ?_ | refine Hp.ld H 5 rfl rfl ?_ | (refine Hp.st H 0 rfl rfl rfl rfl rfl ?_; intro h H) | (refine Hp.st H 1 rfl rfl rfl rfl rfl ?_; intro h H) | (refine Hp.st H 2 rfl rfl rfl rfl rfl ?_; intro h H) | (refine Hp.st H 3 rfl rfl rfl rfl rfl ?_; intro h H) | (refine Hp.st H 4 rfl rfl rfl rfl rfl ?_; intro h H) | (refine Hp.st H 5 rfl rfl rfl rfl rfl ?_; intro h H) | (intro b h N; replace H := Hp.new H N; clear N) | refine Drawn.mk (by kernel_rfl) ?_ | refine FillK.row rfl ?_ | refine FillK.lit rfl ?_ | refine WrapK.i64 (by omega) (by omega) ?_ | refine WrapK.u64 (by omega) (by omega) ?_ | refine WrapK.u32 (by omega) (by omega) ?_ | refine WrapK.u8 (by omega) (by omega) ?_ | refine iteT (by omega) ?_ | refine iteF (by omega) ?_ | refine iteET (by omega) ?_ | refine iteEF (by omega) ?_ | refine iteNT (by omega) ?_ | refine iteNF (by omega) ?_); conv => whnf)
    exact ⟨rfl, val 11, (((H.drop 1).drop 1).drop 1).pair.unpick hn⟩
  rw [if_neg (by rw [ha]; decide)]
  by_cases c6 : (E1.length : Int) = room
  · rw [if_pos c6]
    conv => whnf
    repeat ((first | refine cnd_intro (by first | (simp; done) | (simp; omega) | omega | (simp only [Bool.and_eq_true, decide_eq_true_eq]; omega)) ?_ | refine Hp.ld H 0 rfl rfl ?_ | refine Hp.ld H 1 rfl rfl ?_ | refine Hp.ld H 2 rfl rfl ?_ | refine Hp.ld H 3 rfl rfl ?_ | refine Hp.ld H 4 rfl rfl ?_ | refine Hp.ld H 5 rfl rfl ?_ | (refine Hp.st H 0 rfl rfl rfl rfl rfl ?_; intro h H) | (refine Hp.st H 1 rfl rfl rfl rfl rfl ?_; intro h H) | (refine Hp.st H 2 rfl rfl rfl rfl rfl ?_; intro h H) | (refine Hp.st H 3 rfl rfl rfl rfl rfl ?_; intro h H) | (refine Hp.st H 4 rfl rfl rfl rfl rfl ?_; intro h H) | (refine Hp.st H 5 rfl rfl rfl rfl rfl ?_; intro h H) | (intro b h N; replace H := Hp.new H N; clear N) | refine Drawn.mk (by kernel_rfl) ?_ | refine FillK.row rfl ?_ | refine FillK.lit rfl ?_ | refine WrapK.i64 (by omega) (by omega) ?_ | refine WrapK.u64 (by omega) (by omega) ?_ | refine WrapK.u32 (by omega) (by omega) ?_ | refine WrapK.u8 (by omega) (by omega) ?_ | refine iteT (by omega) ?_ | refine iteF (by omega) ?_ | refine iteET (by omega) ?_ | refine iteEF (by omega) ?_ | refine iteNT (by omega) ?_ | refine iteNF (by omega) ?_); conv => whnf)
    exact ⟨rfl, _, (((H.drop 1).drop 1).drop 1).pair.unpick hn⟩
  rw [if_neg c6]
  conv => whnf
  repeat ((first | refine cnd_intro (by first | (simp; done) | (simp; omega) | omega | (simp only [Bool.and_eq_true, decide_eq_true_eq]; omega)) ?_ | refine Hp.ld H 0 rfl rfl ?_ | refine Hp.ld H 1 rfl rfl ?_ | refine Hp.ld H 2 rfl rfl ?_ | refine Hp.ld H 3 rfl rfl ?_ | refine Hp.ld H 4 rfl rfl ?_ | refine Hp.ld H 5 rfl rfl ?_ | (refine Hp.st H 0 rfl rfl rfl rfl rfl ?_; intro h H) | (refine Hp.st H 1 rfl rfl rfl rfl rfl ?_; intro h H) | (refine Hp.st H 2 rfl rfl rfl rfl rfl ?_; intro h H) | (refine Hp.st H 3 rfl rfl rfl rfl rfl ?_; intro h H) | (refine Hp.st H 4 rfl rfl rfl rfl rfl ?_; intro h H) | (refine Hp.st H 5 rfl rfl rfl rfl rfl ?_; intro h H) | (intro b h N; replace H := Hp.new H N; clear N) | refine FillK.row rfl ?_ | refine FillK.lit rfl ?_ | refine WrapK.i64 (by omega) (by omega) ?_ | refine WrapK.u64 (by omega) (by omega) ?_ | refine WrapK.u32 (by omega) (by omega) ?_ | refine WrapK.u8 (by omega) (by omega) ?_ | refine iteT (by omega) ?_ | refine iteF (by omega) ?_ | refine iteET (by omega) ?_ | refine iteEF (by omega) ?_ | refine iteNT (by omega) ?_ | refine iteNF (by omega) ?_); conv => whnf)
  refine Drawn.mk (by kernel_rfl) ?_
  conv => whnf
  repeat ((first | refine cnd_intro (by first | (simp; done) | (simp; omega) | omega | (simp only [Bool.and_eq_true, decide_eq_true_eq]; omega)) ?_ | refine Hp.ld H 0 rfl rfl ?_ | refine Hp.ld H 1 rfl rfl ?_ | refine Hp.ld H 2 rfl rfl ?_ | refine Hp.ld H 3 rfl rfl ?_ | refine Hp.ld H 4 rfl rfl ?_ | refine Hp.ld H 5 rfl rfl ?_ | (refine Hp.st H 0 rfl rfl rfl rfl rfl ?_; intro h H) | (refine Hp.st H 1 rfl rfl rfl rfl rfl ?_; intro h H) | (refine Hp.st H 2 rfl rfl rfl rfl rfl ?_; intro h H) | (refine Hp.st H 3 rfl rfl rfl rfl rfl ?_; intro h H) | (refine Hp.st H 4 rfl rfl rfl rfl rfl ?_; intro h H) | (refine Hp.st H 5 rfl rfl rfl rfl rfl ?_; intro h H) | (intro b h N; replace H := Hp.new H N; clear N) | refine FillK.row rfl ?_ | refine FillK.lit rfl ?_ | refine WrapK.i64 (by omega) (by omega) ?_ | refine WrapK.u64 (by omega) (by omega) ?_ | refine WrapK.u32 (by omega) (by omega) ?_ | refine WrapK.u8 (by omega) (by omega) ?_ | refine iteT (by omega) ?_ | refine iteF (by omega) ?_ | refine iteET (by omega) ?_ | refine iteEF (by omega) ?_ | refine iteNT (by omega) ?_ | refine iteNF (by omega) ?_); conv => whnf)
  refine Drawn.keys [0, 1, 2, 3, 8, 9] [(4, []), (5, []), (6, [5]), (7, [4, 6, 5])] [10] (by kernel_rfl) ?_
  conv => whnf
  repeat ((first | refine cnd_intro (by first | (simp; done) | (simp; omega) | omega | (simp only [Bool.and_eq_true, decide_eq_true_eq]; omega)) ?_ | refine Hp.ld H 0 rfl rfl ?_ | refine Hp.ld H 1 rfl rfl ?_ | refine Hp.ld H 2 rfl rfl ?_ | refine Hp.ld H 3 rfl rfl ?_ | refine Hp.ld H 4 rfl rfl ?_ | refine Hp.ld H 5 rfl rfl ?_ | (refine Hp.st H 0 rfl rfl rfl rfl rfl ?_; intro h H) | (refine Hp.st H 1 rfl rfl rfl rfl rfl ?_; intro h H) | (refine Hp.st H 2 rfl rfl rfl rfl rfl ?_; intro h H) | (refine Hp.st H 3 rfl rfl rfl rfl rfl ?_; intro h H) | (refine Hp.st H 4 rfl rfl rfl rfl rfl ?_; intro h H) | (refine Hp.st H 5 rfl rfl rfl rfl rfl ?_; intro h H) | (intro b h N; replace H := Hp.new H N; clear N) | refine Drawn.mk (by kernel_rfl) ?_ | refine FillK.row rfl ?_ | refine FillK.lit rfl ?_ | refine WrapK.i64 (by omega) (by omega) ?_ | refine WrapK.u64 (by omega) (by omega) ?_ | refine WrapK.u32 (by omega) (by omega) ?_ | refine WrapK.u8 (by omega) (by omega) ?_ | refine iteT (by omega) ?_ | refine iteF (by omega) ?_ | refine iteET (by omega) ?_ | refine iteEF (by omega) ?_ | refine iteNT (by omega) ?_ | refine iteNF (by omega) ?_); conv => whnf)
  refine ⟨fun D val h => (D 4 = true → val 4 = .slice A E1.length c) ∧ (D 5 = true → val 5 = .agg (FEnt.cells ⟨v, m, port, now⟩).toArray) ∧ Hp h0 h (cond (D 7) (Res.own (val 7) 85 9 (E1.length + 1) (E1.flatMap FEnt.cells ++ FEnt.cells ⟨v, m, port, now⟩)) (Res.own (.slice A E1.length c) 85 9 E1.length (E1.flatMap FEnt.cells)) ::
    Res.opt (D 6) (Res.own (val 6) 85 9 1 (FEnt.cells ⟨v, m, port, now⟩)) :: Res.ob g2 (.cells (FEnt.cells ⟨v, m, port, now⟩).toArray 85 (0, 0)) :: Res.ob g1 (.cells m.cells.toArray 36 (0, 0)) :: Res.ob g (.cells (ftCells (.slice A E1.length c) room age lost).toArray 79 (0, 0)) :: delN rs i), fun _ => .bool false,
    ⟨fun h => absurd (show false = true from h) (by decide), fun h => absurd (show false = true from h) (by decide), H⟩, And.intro ?_ (And.intro ?_ (And.intro ?_ (And.intro ?_ trivial))), ?_⟩
  · rintro D val h6 ⟨v4, v9, H⟩
    conv => whnf
    refine Hp.ld H 4 rfl rfl ?_
    exact ⟨fun _ => rfl, v9, H⟩
  · rintro D val h6 ⟨v4, v9, H⟩
    conv => whnf
    refine Hp.ld H 2 rfl rfl ?_
    exact ⟨v4, fun _ => rfl, H⟩
  · rintro D val h6 ⟨v4, v9, H⟩
    conv => whnf
    rw [v9 rfl]
    refine FillK.row rfl ?_
    conv => whnf
    intro b1 h7 N
    exact ⟨v4, v9, ((H.new N).whole 0 (n := 1) (size := 9) (xs := FEnt.cells ⟨v, m, port, now⟩) rfl rfl).fill 1 rfl⟩
  · rintro D val h6 ⟨v4, v9, H⟩
    obtain ⟨B, cb, hv⟩ := own_shape (H.get 1 rfl)
    have hrow := OwnS.row (h := h6) (D := 0) (c := cb) (A := B) (by rw [← hv]; exact H.get 1 rfl)
    conv => whnf
    rw [v4 rfl]
    refine Hp.append' EW_ok (H := H) (i := 0) (B := B) (m := 1) (c := cb) (z := fentT) rfl hv hrow rfl (fun e => by rw [e] at hrow; rcases hrow.out with e | ⟨b, o, _, _, _, e, _⟩ <;> cases e) rfl rfl rfl rfl rfl rfl rfl (fun k h => by cases h) (by show _ * 32 ≤ _; omega) (by decide) (by decide) ?_
    intro v' h7 H
    exact ⟨v4, v9, H⟩
  clear H
  rintro val h6 ⟨_, _, H⟩
  have H : Hp h0 h6 (Res.own (val 7) 85 9 (E1.length + 1) (E1.flatMap FEnt.cells ++ FEnt.cells ⟨v, m, port, now⟩) :: Res.own (val 6) 85 9 1 (FEnt.cells ⟨v, m, port, now⟩) :: Res.ob g2 (.cells (FEnt.cells ⟨v, m, port, now⟩).toArray 85 (0, 0)) :: Res.ob g1 (.cells m.cells.toArray 36 (0, 0)) :: Res.ob g (.cells (ftCells (.slice A E1.length c) room age lost).toArray 79 (0, 0)) :: delN rs i) := H
  obtain ⟨A6, c6, hv6⟩ := own_shape (H.get 0 rfl)
  conv => whnf
  refine Hp.stAt H 4 rfl (y := feT) (o := 0) rfl rfl (by rw [hv6]; rfl) (by rw [hv6]; rfl) rfl (by show 0 < 4; decide) ?_
  clear H
  intro h7 H
  have H : Hp h0 h7 (Res.own (val 7) 85 9 (E1.length + 1) (E1.flatMap FEnt.cells ++ FEnt.cells ⟨v, m, port, now⟩) :: Res.own (val 6) 85 9 1 (FEnt.cells ⟨v, m, port, now⟩) :: Res.ob g2 (.cells (FEnt.cells ⟨v, m, port, now⟩).toArray 85 (0, 0)) :: Res.ob g1 (.cells m.cells.toArray 36 (0, 0)) :: Res.ob g (.cells (ftCells (val 7) room age lost).toArray 79 (0, 0)) :: delN rs i) := H
  have e1 : E1.length + 1 = (E1 ++ [(⟨v, m, port, now⟩ : FEnt)]).length := by simp
  have e2 : E1.flatMap FEnt.cells ++ FEnt.cells ⟨v, m, port, now⟩ = (E1 ++ [(⟨v, m, port, now⟩ : FEnt)]).flatMap FEnt.cells := by simp
  rw [e1, e2] at H
  conv => whnf
  repeat ((first | refine cnd_intro (by first | (simp; done) | (simp; omega) | omega | (simp only [Bool.and_eq_true, decide_eq_true_eq]; omega)) ?_ | refine Hp.ld H 0 rfl rfl ?_ | refine Hp.ld H 1 rfl rfl ?_ | refine Hp.ld H 2 rfl rfl ?_ | refine Hp.ld H 3 rfl rfl ?_ | refine Hp.ld H 4 rfl rfl ?_ | refine Hp.ld H 5 rfl rfl ?_ | (refine Hp.st H 0 rfl rfl rfl rfl rfl ?_; intro h H) | (refine Hp.st H 1 rfl rfl rfl rfl rfl ?_; intro h H) | (refine Hp.st H 2 rfl rfl rfl rfl rfl ?_; intro h H) | (refine Hp.st H 3 rfl rfl rfl rfl rfl ?_; intro h H) | (refine Hp.st H 4 rfl rfl rfl rfl rfl ?_; intro h H) | (refine Hp.st H 5 rfl rfl rfl rfl rfl ?_; intro h H) | (intro b h N; replace H := Hp.new H N; clear N) | refine Drawn.mk (by kernel_rfl) ?_ | refine FillK.row rfl ?_ | refine FillK.lit rfl ?_ | refine WrapK.i64 (by omega) (by omega) ?_ | refine WrapK.u64 (by omega) (by omega) ?_ | refine WrapK.u32 (by omega) (by omega) ?_ | refine WrapK.u8 (by omega) (by omega) ?_ | refine iteT (by omega) ?_ | refine iteF (by omega) ?_ | refine iteET (by omega) ?_ | refine iteEF (by omega) ?_ | refine iteNT (by omega) ?_ | refine iteNF (by omega) ?_); conv => whnf)
  exact ⟨rfl, val 7, (((H.drop 1).drop 1).drop 1).pair.unpick hn⟩

end Go.Proofs.Ytcjilkemfmhkgaa
