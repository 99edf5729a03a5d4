import Derived.Test.YtcjilkemfmhkgaaFdb2
namespace Go.Proofs.Ytcjilkemfmhkgaa
open Go.Vc
set_option maxRecDepth 10000
set_option maxHeartbeats 4000000

/-! ### fdb: DeleteFunc -/

theorem ldMid {E : Env} {t b p : Nat} {h : Heap} {l a q r : List Value} {T : TypeId} {z : Nat × Nat} {y : Ty} {K : Value → Prop} (hb : h[b]? = some (.cells l.toArray T z)) (hl : l = a ++ q ++ r) (hy : E.ty t = some y) (hq : q.length = y.size) (ha : y.agg = true) (hp : p = a.length)
    (k : K (.agg q.toArray)) : LdK E t (.pointer (some ⟨b, p, none⟩)) h K := by
  subst hl hp
  refine LdK.gen hb (u := .agg q.toArray) ?_ k
  unfold rdCell
  rw [hy]
  simp only [ha]
  have hsz : (a ++ q ++ r).toArray.size = a.length + q.length + r.length := by simp; omega
  rw [if_pos (by omega)]
  congr 2
  apply Array.toList_inj.1
  rw [Array.toList_extract]
  simp only [List.extract_eq_take_drop]
  rw [List.append_assoc, List.drop_left, ← hq, Nat.add_sub_cancel_left, List.take_left]

theorem filter_len {α : Type} {p : α → Bool} {l : List α} {x : α} (hx : x ∈ l) (hp : p x = true) : (l.filter fun y => !(p y)).length < l.length := by
  induction l with
  | nil => simp at hx
  | cons y r ih =>
    rw [List.filter_cons]
    rcases List.mem_cons.1 hx with rfl | hx
    · rw [hp]
      have := List.length_filter_le (fun y => !(p y)) r
      simp only [Bool.not_true, Bool.false_eq_true, if_false, List.length_cons]
      omega
    · have := ih hx
      split <;> simp only [List.length_cons] <;> omega

theorem filter_none {α : Type} {p : α → Bool} {l : List α} (h : l.any p = false) : (l.filter fun y => !(p y)) = l := by
  rw [List.filter_eq_self]
  intro x hx
  rw [List.any_eq_false] at h
  have := h x hx
  cases hp : p x with
  | false => rfl
  | true => exact absurd hp this

theorem cut_zero (b c : Nat) : cutA (some ⟨b, 0, none⟩) 0 c 9 = some ⟨b, 0, none⟩ := by
  rw [cutA_some]
  split <;> rfl

theorem fdeletefunc_call {h0 h : Heap} {rs : List Res} {s : Value} {fs : List FEnt} (H : Hp h0 h (Res.own s 85 9 fs.length (fs.flatMap FEnt.cells) :: rs)) (g : Nat) (caps : Array Value) (p : FEnt → Bool) (hg : g = 56 ∨ g = 54) (hl : fs.length ≤ 1000000)
    (hc : ∀ h' r, Hp h0 h' (r :: rs) → ∀ x ∈ fs, CallK Try.prog g (#[] ++ [Value.agg x.cells.toArray].toArray ++ caps) h' fun v h'' => Keep (fun _ => False) h' h'' ∧ v = .bool (p x)) :
    CallK Try.prog 53 #[s, .func (.func g) #[] caps] h fun v h' => Hp h0 h' (Res.own v 85 9 (fs.filter fun y => !(p y)).length ((fs.filter fun y => !(p y)).flatMap FEnt.cells) :: rs) := by
  have hrows : FEntsV h s fs := RowsV.of_own (D := 0) (H.get 0 rfl) (fun _ => rfl) (by decide)
  have hidx := findex_call h s fs g caps p (by rcases hg with h | h <;> simp [h]) hrows (by omega) (fun h' x hx k => hc h' _ (H.and k) x hx)
  obtain ⟨A, c, rfl⟩ := own_shape (H.get 0 rfl)
  have hlv : ∀ x : FEnt, x.cells.length = 9 := fun _ => rfl
  rcases hg with rfl | rfl
  all_goals
    refine CallK.of_vc EW_ok [0, 1, 4, 5, 6, 7, 12, 19, 29] Try.func53 rfl (Nat.le_of_ble_eq_true rfl) ?_
    conv => whnf
    repeat ((first | refine cnd_intro (by first | (simp; done) | (simp; omega) | omega | (simp only [Bool.and_eq_true, decide_eq_true_eq]; omega)) ?_ | refine Hp.ld H 0 rfl rfl ?_ | refine Hp.ld H 1 rfl rfl ?_ | refine Hp.ld H 2 rfl rfl ?_ | refine Hp.ld H 3 rfl rfl ?_ | refine Hp.ld H 4 rfl rfl ?_ | refine Hp.ld H 5 rfl rfl ?_ | (refine Hp.st H 0 rfl rfl rfl rfl rfl ?_; intro h H) | (refine Hp.st H 1 rfl rfl rfl rfl rfl ?_; intro h H) | (refine Hp.st H 2 rfl rfl rfl rfl rfl ?_; intro h H) | (refine Hp.st H 3 rfl rfl rfl rfl rfl ?_; intro h H) | (refine Hp.st H 4 rfl rfl rfl rfl rfl ?_; intro h H) | (refine Hp.st H 5 rfl rfl rfl rfl rfl ?_; intro h H) | (intro b h N; replace H := Hp.new H N; clear N) | refine Drawn.mk (by kernel_rfl) ?_ | refine FillK.row rfl ?_ | refine FillK.lit rfl ?_ | refine WrapK.i64 (by omega) (by omega) ?_ | refine WrapK.u64 (by omega) (by omega) ?_ | refine WrapK.u32 (by omega) (by omega) ?_ | refine WrapK.u8 (by omega) (by omega) ?_ | refine iteT (by omega) ?_ | refine iteF (by omega) ?_ | refine iteET (by omega) ?_ | refine iteEF (by omega) ?_ | refine iteNT (by omega) ?_ | refine iteNF (by omega) ?_); conv => whnf)
    refine CallK.mono hidx ?_
    rintro _ h2 ⟨k2, n, rfl, hn⟩
    replace H := H.and k2
    rcases hn with ⟨rfl, ha⟩ | ⟨i, x0, rfl, hx0, hp0, ha⟩
    · rw [filter_none ha]
      conv => whnf
      repeat ((first | refine cnd_intro (by first | (simp; done) | (simp; omega) | omega | (simp only [Bool.and_eq_true, decide_eq_true_eq]; omega)) ?_ | refine Hp.ld H 0 rfl rfl ?_ | refine Hp.ld H 1 rfl rfl ?_ | refine Hp.ld H 2 rfl rfl ?_ | refine Hp.ld H 3 rfl rfl ?_ | refine Hp.ld H 4 rfl rfl ?_ | refine Hp.ld H 5 rfl rfl ?_ | (refine Hp.st H 0 rfl rfl rfl rfl rfl ?_; intro h H) | (refine Hp.st H 1 rfl rfl rfl rfl rfl ?_; intro h H) | (refine Hp.st H 2 rfl rfl rfl rfl rfl ?_; intro h H) | (refine Hp.st H 3 rfl rfl rfl rfl rfl ?_; intro h H) | (refine Hp.st H 4 rfl rfl rfl rfl rfl ?_; intro h H) | (refine Hp.st H 5 rfl rfl rfl rfl rfl ?_; intro h H) | (intro b h N; replace H := Hp.new H N; clear N) | refine Drawn.mk (by kernel_rfl) ?_ | refine FillK.row rfl ?_ | refine FillK.lit rfl ?_ | refine WrapK.i64 (by omega) (by omega) ?_ | refine WrapK.u64 (by omega) (by omega) ?_ | refine WrapK.u32 (by omega) (by omega) ?_ | refine WrapK.u8 (by omega) (by omega) ?_ | refine iteT (by omega) ?_ | refine iteF (by omega) ?_ | refine iteET (by omega) ?_ | refine iteEF (by omega) ?_ | refine iteNT (by omega) ?_ | refine iteNF (by omega) ?_); conv => whnf)
      exact H
    have hi : i < fs.length := by
      rcases Nat.lt_or_ge i fs.length with h | h
      · exact h
      · rw [List.getElem?_eq_none h] at hx0; cases hx0
    obtain ⟨b, cap, r0, hbe, hcap, hlen, HH⟩ := H.opened 0 rfl (by omega) (by decide)
    clear H
    injection hbe with hA _ hcc
    subst hA hcc
    have H : Hp h0 h2 (Res.ob b (.cells (fs.flatMap FEnt.cells ++ r0).toArray 85 (0, 0)) :: rs) := HH
    clear HH
    rw [List.length_append, flat_length hlv] at hlen
    have hK1 : ((fs.take (i + 1)).filter fun y => !(p y)) = fs.take i := by
      rw [List.take_add_one, hx0, List.filter_append, filter_none ha]
      simp [hp0]
    have hl1 : (fs.take i).length = i := by rw [List.length_take]; omega
    have hb0 : fs.flatMap FEnt.cells ++ r0 = ((fs.take (i + 1)).filter fun y => !(p y)).flatMap FEnt.cells ++ x0.cells ++ (fs.drop (i + 1)).flatMap FEnt.cells ++ r0 := by
      rw [hK1, flat_cut (f := FEnt.cells) hx0]
      simp only [List.append_assoc]
    rw [hb0] at H
    clear hb0
    conv => whnf
    repeat ((first | refine cnd_intro (by first | (simp; done) | (simp; omega) | omega | (simp only [Bool.and_eq_true, decide_eq_true_eq]; omega)) ?_ | refine Hp.ld H 0 rfl rfl ?_ | refine Hp.ld H 1 rfl rfl ?_ | refine Hp.ld H 2 rfl rfl ?_ | refine Hp.ld H 3 rfl rfl ?_ | refine Hp.ld H 4 rfl rfl ?_ | refine Hp.ld H 5 rfl rfl ?_ | (refine Hp.st H 0 rfl rfl rfl rfl rfl ?_; intro h H) | (refine Hp.st H 1 rfl rfl rfl rfl rfl ?_; intro h H) | (refine Hp.st H 2 rfl rfl rfl rfl rfl ?_; intro h H) | (refine Hp.st H 3 rfl rfl rfl rfl rfl ?_; intro h H) | (refine Hp.st H 4 rfl rfl rfl rfl rfl ?_; intro h H) | (refine Hp.st H 5 rfl rfl rfl rfl rfl ?_; intro h H) | (intro b h N; replace H := Hp.new H N; clear N) | refine Drawn.mk (by kernel_rfl) ?_ | refine FillK.row rfl ?_ | refine FillK.lit rfl ?_ | refine WrapK.i64 (by omega) (by omega) ?_ | refine WrapK.u64 (by omega) (by omega) ?_ | refine WrapK.u32 (by omega) (by omega) ?_ | refine WrapK.u8 (by omega) (by omega) ?_ | refine iteT (by omega) ?_ | refine iteF (by omega) ?_ | refine iteET (by omega) ?_ | refine iteEF (by omega) ?_ | refine iteNT (by omega) ?_ | refine iteNF (by omega) ?_); conv => whnf)
    refine ⟨Nat × List Value, [0, 1, 4, 12], fun q => [(6, .int .i64 (q.1 : Nat)), (5, .int .i64 (((fs.take q.1).filter fun y => !(p y)).length : Nat))], fun q h' => (q.1 ≤ fs.length ∧ ((fs.take q.1).filter fun y => !(p y)).length < q.1 ∧ q.2.length = (q.1 - ((fs.take q.1).filter fun y => !(p y)).length) * 9) ∧
      Hp h0 h' (Res.ob b (.cells (((fs.take q.1).filter fun y => !(p y)).flatMap FEnt.cells ++ q.2 ++ (fs.drop q.1).flatMap FEnt.cells ++ r0).toArray 85 (0, 0)) :: rs), fun q => fs.length - q.1, ?_⟩
    conv => whnf
    refine ⟨⟨(i + 1, x0.cells), ⟨(by first | rfl | (show Value.int .i64 _ = _; congr 1; omega) | (show Value.int .i64 _ = _; rw [wrap64_id (by omega) (by omega)]; first | rfl | (congr 1; omega))), (by dsimp only; rw [hK1, hl1]; rfl), trivial⟩, ⟨by dsimp only; omega, (by dsimp only; rw [hK1, hl1]; omega), (by dsimp only; rw [hK1, hl1, hlv]; omega)⟩, H⟩, ?_⟩
    clear H
    rintro ⟨j, M⟩ h3 ⟨⟨jA, jB, jC⟩, H⟩
    dsimp only at jA jB jC H ⊢
    generalize hK : ((fs.take j).filter fun y => !(p y)) = K at *
    have hKl : (K.flatMap FEnt.cells).length = K.length * 9 := flat_length hlv K
    by_cases cj : j < fs.length
    · obtain ⟨x, hx⟩ := list_at cj
      have hdrop : (fs.drop j).flatMap FEnt.cells = x.cells ++ (fs.drop (j + 1)).flatMap FEnt.cells := by
        rw [List.drop_eq_getElem_cons cj, List.flatMap_cons]
        rw [List.getElem?_eq_getElem cj] at hx
        injection hx with hx
        rw [hx]
      have hKs : ((fs.take (j + 1)).filter fun y => !(p y)) = K ++ [x].filter fun y => !(p y) := by
        rw [List.take_add_one, hx, List.filter_append, hK]
        rfl
      rw [hdrop] at H
      conv => whnf
      repeat ((first | refine cnd_intro (by first | (simp; done) | (simp; omega) | omega | (simp only [Bool.and_eq_true, decide_eq_true_eq]; omega)) ?_ | refine Hp.ld H 0 rfl rfl ?_ | refine Hp.ld H 1 rfl rfl ?_ | refine Hp.ld H 2 rfl rfl ?_ | refine Hp.ld H 3 rfl rfl ?_ | refine Hp.ld H 4 rfl rfl ?_ | refine Hp.ld H 5 rfl rfl ?_ | (refine Hp.st H 0 rfl rfl rfl rfl rfl ?_; intro h H) | (refine Hp.st H 1 rfl rfl rfl rfl rfl ?_; intro h H) | (refine Hp.st H 2 rfl rfl rfl rfl rfl ?_; intro h H) | (refine Hp.st H 3 rfl rfl rfl rfl rfl ?_; intro h H) | (refine Hp.st H 4 rfl rfl rfl rfl rfl ?_; intro h H) | (refine Hp.st H 5 rfl rfl rfl rfl rfl ?_; intro h H) | (intro b h N; replace H := Hp.new H N; clear N) | refine Drawn.mk (by kernel_rfl) ?_ | refine FillK.row rfl ?_ | refine FillK.lit rfl ?_ | refine WrapK.i64 (by omega) (by omega) ?_ | refine WrapK.u64 (by omega) (by omega) ?_ | refine WrapK.u32 (by omega) (by omega) ?_ | refine WrapK.u8 (by omega) (by omega) ?_ | refine iteT (by omega) ?_ | refine iteF (by omega) ?_ | refine iteET (by omega) ?_ | refine iteEF (by omega) ?_ | refine iteNT (by omega) ?_ | refine iteNF (by omega) ?_); conv => whnf)
      refine ldMid (H.get 0 rfl) (a := K.flatMap FEnt.cells ++ M) (q := x.cells) (r := (fs.drop (j + 1)).flatMap FEnt.cells ++ r0) (y := fentT) (by simp only [List.append_assoc]) rfl rfl rfl (by rw [List.length_append, hKl, jC]; simp; omega) ?_
      conv => whnf
      intro gx h4 N
      replace H := H.new N
      clear N
      conv => whnf
      repeat ((first | refine cnd_intro (by first | (simp; done) | (simp; omega) | omega | (simp only [Bool.and_eq_true, decide_eq_true_eq]; omega)) ?_ | refine Hp.ld H 0 rfl rfl ?_ | refine Hp.ld H 1 rfl rfl ?_ | refine Hp.ld H 2 rfl rfl ?_ | refine Hp.ld H 3 rfl rfl ?_ | refine Hp.ld H 4 rfl rfl ?_ | refine Hp.ld H 5 rfl rfl ?_ | (refine Hp.st H 0 rfl rfl rfl rfl rfl ?_; intro h H) | (refine Hp.st H 1 rfl rfl rfl rfl rfl ?_; intro h H) | (refine Hp.st H 2 rfl rfl rfl rfl rfl ?_; intro h H) | (refine Hp.st H 3 rfl rfl rfl rfl rfl ?_; intro h H) | (refine Hp.st H 4 rfl rfl rfl rfl rfl ?_; intro h H) | (refine Hp.st H 5 rfl rfl rfl rfl rfl ?_; intro h H) | (intro b h N; replace H := Hp.new H N; clear N) | refine Drawn.mk (by kernel_rfl) ?_ | refine FillK.row rfl ?_ | refine FillK.lit rfl ?_ | refine WrapK.i64 (by omega) (by omega) ?_ | refine WrapK.u64 (by omega) (by omega) ?_ | refine WrapK.u32 (by omega) (by omega) ?_ | refine WrapK.u8 (by omega) (by omega) ?_ | refine iteT (by omega) ?_ | refine iteF (by omega) ?_ | refine iteET (by omega) ?_ | refine iteEF (by omega) ?_ | refine iteNT (by omega) ?_ | refine iteNF (by omega) ?_); conv => whnf)
      refine CallK.mono (hc _ _ (H.drop 0) x (List.mem_of_getElem? hx)) ?_
      rintro _ h5 ⟨k5, rfl⟩
      replace H := H.and k5
      cases hpx : p x with
      | true =>
        have e1 : K ++ ([x].filter fun y => !(p y)) = K := by simp [hpx]
        conv => whnf
        repeat ((first | refine cnd_intro (by first | (simp; done) | (simp; omega) | omega | (simp only [Bool.and_eq_true, decide_eq_true_eq]; omega)) ?_ | refine Hp.ld H 0 rfl rfl ?_ | refine Hp.ld H 1 rfl rfl ?_ | refine Hp.ld H 2 rfl rfl ?_ | refine Hp.ld H 3 rfl rfl ?_ | refine Hp.ld H 4 rfl rfl ?_ | refine Hp.ld H 5 rfl rfl ?_ | (refine Hp.st H 0 rfl rfl rfl rfl rfl ?_; intro h H) | (refine Hp.st H 1 rfl rfl rfl rfl rfl ?_; intro h H) | (refine Hp.st H 2 rfl rfl rfl rfl rfl ?_; intro h H) | (refine Hp.st H 3 rfl rfl rfl rfl rfl ?_; intro h H) | (refine Hp.st H 4 rfl rfl rfl rfl rfl ?_; intro h H) | (refine Hp.st H 5 rfl rfl rfl rfl rfl ?_; intro h H) | (intro b h N; replace H := Hp.new H N; clear N) | refine Drawn.mk (by kernel_rfl) ?_ | refine FillK.row rfl ?_ | refine FillK.lit rfl ?_ | refine WrapK.i64 (by omega) (by omega) ?_ | refine WrapK.u64 (by omega) (by omega) ?_ | refine WrapK.u32 (by omega) (by omega) ?_ | refine WrapK.u8 (by omega) (by omega) ?_ | refine iteT (by omega) ?_ | refine iteF (by omega) ?_ | refine iteET (by omega) ?_ | refine iteEF (by omega) ?_ | refine iteNT (by omega) ?_ | refine iteNF (by omega) ?_); conv => whnf)
        refine ⟨(j + 1, M ++ x.cells), ⟨(by first | rfl | (show Value.int .i64 _ = _; congr 1; omega) | (show Value.int .i64 _ = _; rw [wrap64_id (by omega) (by omega)]; first | rfl | (congr 1; omega))), (by dsimp only; rw [hKs, e1]; rfl), trivial⟩, (by repeat (first | exact trivial | refine ⟨rfl, ?_⟩)), ⟨⟨by dsimp only; omega, (by dsimp only; rw [hKs, e1]; omega), (by dsimp only; rw [hKs, e1, List.length_append, hlv, jC]; omega)⟩, ?_⟩, by show fs.length - (j + 1) < fs.length - j; omega⟩
        dsimp only
        rw [hKs, e1]
        replace H := H.drop 0
        have e2 : K.flatMap FEnt.cells ++ (M ++ x.cells) ++ (fs.drop (j + 1)).flatMap FEnt.cells ++ r0 = K.flatMap FEnt.cells ++ M ++ (x.cells ++ (fs.drop (j + 1)).flatMap FEnt.cells) ++ r0 := by simp only [List.append_assoc]
        rw [e2]
        exact H
      | false =>
        have e1 : K ++ ([x].filter fun y => !(p y)) = K ++ [x] := by simp [hpx]
        conv => whnf
        repeat ((first | refine cnd_intro (by first | (simp; done) | (simp; omega) | omega | (simp only [Bool.and_eq_true, decide_eq_true_eq]; omega)) ?_ | refine Hp.ld H 0 rfl rfl ?_ | refine Hp.ld H 1 rfl rfl ?_ | refine Hp.ld H 2 rfl rfl ?_ | refine Hp.ld H 3 rfl rfl ?_ | refine Hp.ld H 4 rfl rfl ?_ | refine Hp.ld H 5 rfl rfl ?_ | (refine Hp.st H 0 rfl rfl rfl rfl rfl ?_; intro h H) | (refine Hp.st H 1 rfl rfl rfl rfl rfl ?_; intro h H) | (refine Hp.st H 2 rfl rfl rfl rfl rfl ?_; intro h H) | (refine Hp.st H 3 rfl rfl rfl rfl rfl ?_; intro h H) | (refine Hp.st H 4 rfl rfl rfl rfl rfl ?_; intro h H) | (refine Hp.st H 5 rfl rfl rfl rfl rfl ?_; intro h H) | (intro b h N; replace H := Hp.new H N; clear N) | refine Drawn.mk (by kernel_rfl) ?_ | refine FillK.row rfl ?_ | refine FillK.lit rfl ?_ | refine WrapK.i64 (by omega) (by omega) ?_ | refine WrapK.u64 (by omega) (by omega) ?_ | refine WrapK.u32 (by omega) (by omega) ?_ | refine WrapK.u8 (by omega) (by omega) ?_ | refine iteT (by omega) ?_ | refine iteF (by omega) ?_ | refine iteET (by omega) ?_ | refine iteEF (by omega) ?_ | refine iteNT (by omega) ?_ | refine iteNF (by omega) ?_); conv => whnf)
        refine Hp.stMid H 1 (a := K.flatMap FEnt.cells) (q := M.take 9) (r := M.drop 9 ++ (x.cells ++ (fs.drop (j + 1)).flatMap FEnt.cells) ++ r0) (y := fentT) rfl ?_ rfl rfl ?_ rfl ?_ ?_
        · conv => lhs; rw [← List.take_append_drop 9 M]
          simp only [List.append_assoc]
        · rw [List.length_take, jC]
          show min 9 _ = 9
          omega
        · rw [hKl]; simp
        clear H
        intro h6 H
        conv => whnf
        repeat ((first | refine cnd_intro (by first | (simp; done) | (simp; omega) | omega | (simp only [Bool.and_eq_true, decide_eq_true_eq]; omega)) ?_ | refine Hp.ld H 0 rfl rfl ?_ | refine Hp.ld H 1 rfl rfl ?_ | refine Hp.ld H 2 rfl rfl ?_ | refine Hp.ld H 3 rfl rfl ?_ | refine Hp.ld H 4 rfl rfl ?_ | refine Hp.ld H 5 rfl rfl ?_ | (refine Hp.st H 0 rfl rfl rfl rfl rfl ?_; intro h H) | (refine Hp.st H 1 rfl rfl rfl rfl rfl ?_; intro h H) | (refine Hp.st H 2 rfl rfl rfl rfl rfl ?_; intro h H) | (refine Hp.st H 3 rfl rfl rfl rfl rfl ?_; intro h H) | (refine Hp.st H 4 rfl rfl rfl rfl rfl ?_; intro h H) | (refine Hp.st H 5 rfl rfl rfl rfl rfl ?_; intro h H) | (intro b h N; replace H := Hp.new H N; clear N) | refine Drawn.mk (by kernel_rfl) ?_ | refine FillK.row rfl ?_ | refine FillK.lit rfl ?_ | refine WrapK.i64 (by omega) (by omega) ?_ | refine WrapK.u64 (by omega) (by omega) ?_ | refine WrapK.u32 (by omega) (by omega) ?_ | refine WrapK.u8 (by omega) (by omega) ?_ | refine iteT (by omega) ?_ | refine iteF (by omega) ?_ | refine iteET (by omega) ?_ | refine iteEF (by omega) ?_ | refine iteNT (by omega) ?_ | refine iteNF (by omega) ?_); conv => whnf)
        refine ⟨(j + 1, M.drop 9 ++ x.cells), ⟨(by first | rfl | (show Value.int .i64 _ = _; congr 1; omega) | (show Value.int .i64 _ = _; rw [wrap64_id (by omega) (by omega)]; first | rfl | (congr 1; omega))), (by dsimp only; rw [hKs, e1, List.length_append]; rfl), trivial⟩, (by repeat (first | exact trivial | refine ⟨rfl, ?_⟩)), ⟨⟨by dsimp only; omega, (by dsimp only; rw [hKs, e1, List.length_append, List.length_singleton]; omega), (by dsimp only; rw [hKs, e1, List.length_append, List.length_append, List.length_drop, hlv, jC, List.length_singleton]; omega)⟩, ?_⟩, by show fs.length - (j + 1) < fs.length - j; omega⟩
        dsimp only
        rw [hKs, e1]
        replace H := H.drop 0
        have e2 : (K ++ [x]).flatMap FEnt.cells ++ (M.drop 9 ++ x.cells) ++ (fs.drop (j + 1)).flatMap FEnt.cells ++ r0 = K.flatMap FEnt.cells ++ (Value.agg x.cells.toArray).cells.toList ++ (M.drop 9 ++ (x.cells ++ (fs.drop (j + 1)).flatMap FEnt.cells) ++ r0) := by
          rw [List.flatMap_append]
          simp only [List.append_assoc, List.flatMap_cons, List.flatMap_nil, List.append_nil]
          rfl
        rw [e2]
        exact H
    obtain rfl : j = fs.length := by omega
    rw [List.take_length] at hK
    rw [List.drop_length, List.flatMap_nil, List.append_nil] at H
    have hKle : K.length ≤ fs.length := by omega
    conv => whnf
    repeat ((first | refine cnd_intro (by first | (simp; done) | (simp; omega) | omega | (simp only [Bool.and_eq_true, decide_eq_true_eq]; omega)) ?_ | refine Hp.ld H 0 rfl rfl ?_ | refine Hp.ld H 1 rfl rfl ?_ | refine Hp.ld H 2 rfl rfl ?_ | refine Hp.ld H 3 rfl rfl ?_ | refine Hp.ld H 4 rfl rfl ?_ | refine Hp.ld H 5 rfl rfl ?_ | (refine Hp.st H 0 rfl rfl rfl rfl rfl ?_; intro h H) | (refine Hp.st H 1 rfl rfl rfl rfl rfl ?_; intro h H) | (refine Hp.st H 2 rfl rfl rfl rfl rfl ?_; intro h H) | (refine Hp.st H 3 rfl rfl rfl rfl rfl ?_; intro h H) | (refine Hp.st H 4 rfl rfl rfl rfl rfl ?_; intro h H) | (refine Hp.st H 5 rfl rfl rfl rfl rfl ?_; intro h H) | (intro b h N; replace H := Hp.new H N; clear N) | refine Drawn.mk (by kernel_rfl) ?_ | refine FillK.row rfl ?_ | refine FillK.lit rfl ?_ | refine WrapK.i64 (by omega) (by omega) ?_ | refine WrapK.u64 (by omega) (by omega) ?_ | refine WrapK.u32 (by omega) (by omega) ?_ | refine WrapK.u8 (by omega) (by omega) ?_ | refine iteT (by omega) ?_ | refine iteF (by omega) ?_ | refine iteET (by omega) ?_ | refine iteEF (by omega) ?_ | refine iteNT (by omega) ?_ | refine iteNF (by omega) ?_); conv => whnf)
    refine Hp.clearIn' EW_ok H 0 (o := if c = K.length then 0 else 0 + K.length * 9) (n := fs.length - K.length) (c := c - K.length) (z := fentT) (a := K.flatMap FEnt.cells) (q := M) (r := r0) rfl ?_ rfl rfl rfl rfl rfl rfl ?_ ?_ ?_
    · rw [cutA_some]
      simp
    · by_cases hck : c = K.length
      · left; omega
      · right
        rw [if_neg hck, hKl]
        omega
    · rw [jC]; rfl
    clear H
    intro h6 ys hys H
    conv => whnf
    repeat ((first | refine cnd_intro (by first | (simp; done) | (simp; omega) | omega | (simp only [Bool.and_eq_true, decide_eq_true_eq]; omega)) ?_ | refine Hp.ld H 0 rfl rfl ?_ | refine Hp.ld H 1 rfl rfl ?_ | refine Hp.ld H 2 rfl rfl ?_ | refine Hp.ld H 3 rfl rfl ?_ | refine Hp.ld H 4 rfl rfl ?_ | refine Hp.ld H 5 rfl rfl ?_ | (refine Hp.st H 0 rfl rfl rfl rfl rfl ?_; intro h H) | (refine Hp.st H 1 rfl rfl rfl rfl rfl ?_; intro h H) | (refine Hp.st H 2 rfl rfl rfl rfl rfl ?_; intro h H) | (refine Hp.st H 3 rfl rfl rfl rfl rfl ?_; intro h H) | (refine Hp.st H 4 rfl rfl rfl rfl rfl ?_; intro h H) | (refine Hp.st H 5 rfl rfl rfl rfl rfl ?_; intro h H) | (intro b h N; replace H := Hp.new H N; clear N) | refine Drawn.mk (by kernel_rfl) ?_ | refine FillK.row rfl ?_ | refine FillK.lit rfl ?_ | refine WrapK.i64 (by omega) (by omega) ?_ | refine WrapK.u64 (by omega) (by omega) ?_ | refine WrapK.u32 (by omega) (by omega) ?_ | refine WrapK.u8 (by omega) (by omega) ?_ | refine iteT (by omega) ?_ | refine iteF (by omega) ?_ | refine iteET (by omega) ?_ | refine iteEF (by omega) ?_ | refine iteNT (by omega) ?_ | refine iteNF (by omega) ?_); conv => whnf)
    rw [tup_one, hK]
    have H := H.slice 0 (b := b) (e := 85) (size := 9) (n := K.length) (c := c) (xs := K.flatMap FEnt.cells) rfl hKl.symm (by rw [List.append_assoc, List.take_left]) (by
      rw [List.length_append, List.length_append, hKl, hys, jC, Nat.sub_mul]
      have : K.length * 9 ≤ fs.length * 9 := Nat.mul_le_mul_right _ hKle
      omega)
    rw [cut_zero]
    exact H

end Go.Proofs.Ytcjilkemfmhkgaa
