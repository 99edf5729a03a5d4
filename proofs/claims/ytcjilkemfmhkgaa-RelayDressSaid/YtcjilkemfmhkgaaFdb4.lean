import Derived.Test.YtcjilkemfmhkgaaFdb3
namespace Go.Proofs.Ytcjilkemfmhkgaa
open Go.Vc
set_option maxRecDepth 10000
set_option maxHeartbeats 4000000

/-! ### fdb: a table of one's own -/

def Res.ft (g : Nat) (s : Value) (E : List FEnt) (room age lost : Int) : Res := Res.pair (Res.own s 85 9 E.length (E.flatMap FEnt.cells)) (Res.ob g (.cells (ftCells s room age lost).toArray 79 (0, 0)))

theorem ft_open {h0 h : Heap} {rs : List Res} {g : Nat} {s : Value} {E : List FEnt} {room age lost : Int} (H : Hp h0 h (Res.ft g s E room age lost :: rs)) : Hp h0 h (Res.own s 85 9 E.length (E.flatMap FEnt.cells) :: Res.ob g (.cells (ftCells s room age lost).toArray 79 (0, 0)) :: rs) := H.unpair

structure FtV (h : Heap) (g : Nat) (s : Value) (E : List FEnt) (room age lost : Int) : Prop where
  tab : h[g]? = some (.cells (ftCells s room age lost).toArray 79 (0, 0))
  rows : FEntsV h s E

theorem FtV.keep {h h' : Heap} {g : Nat} {s : Value} {E : List FEnt} {room age lost : Int} (x : FtV h g s E room age lost) (k : Keep (fun _ => False) h h') : FtV h' g s E room age lost :=
  ⟨(k.old g (lt_of_get x.tab) (fun x => x)).trans x.tab, x.rows.keep k⟩

theorem ft_rows {h0 h : Heap} {rs : List Res} {i : Nat} {s : Value} {E : List FEnt} (H : Hp h0 h rs) (hn : nth rs i = some (Res.own s 85 9 E.length (E.flatMap FEnt.cells))) : FEntsV h s E :=
  RowsV.of_own (D := 0) (H.get i hn) (fun _ => rfl) (by decide)

theorem ft_view {h0 h : Heap} {rs : List Res} {i g : Nat} {s : Value} {E : List FEnt} {room age lost : Int} (H : Hp h0 h rs) (hn : nth rs i = some (Res.ft g s E room age lost)) : FtV h g s E room age lost := by
  have H2 := ft_open (H.pick i hn)
  exact ⟨H2.get 1 rfl, ft_rows (i := 0) H2 rfl⟩

structure GoodE (E : List FEnt) : Prop where
  len : E.length ≤ 1000
  seen : ∀ x ∈ E, 0 ≤ x.seen ∧ x.seen ≤ 1152921504606846976
  apart : E.Pairwise fun x y => ¬ (x.vid = y.vid ∧ x.mac = y.mac)

theorem GoodE.filter {E : List FEnt} (g : GoodE E) (p : FEnt → Bool) : GoodE (E.filter p) := by
  have := List.length_filter_le p E
  have := g.len
  exact ⟨by omega, fun x hx => g.seen x (List.mem_filter.1 hx).1, g.apart.sublist List.filter_sublist⟩

theorem fnew_call (h0 : Heap) (n age : Int) : CallK Try.prog 16 #[.int .i64 n, .int .i64 age] h0 fun v h' => ∃ g, v = .pointer (some ⟨g, 0, none⟩) ∧ Hp h0 h' [Res.ft g (.slice none 0 0) [] (min (max n 0) 1024) (max age 0) 0] := by
  refine CallK.of_vc EW_ok [0, 1, 4] Try.func16 rfl (Nat.le_of_ble_eq_true rfl) ?_
  have H := Hp.start h0
  have e1 : (if (1024 : Int) < (if (0 : Int) > n then 0 else n) then (1024 : Int) else (if (0 : Int) > n then 0 else n)) = min (max n 0) 1024 := by split <;> split <;> omega
  have e2 : (if (0 : Int) > age then 0 else age) = max age 0 := by split <;> omega
  conv => whnf
  refine FillK.lit rfl ?_
  conv => whnf
  intro g h1 N
  replace H := H.new N
  clear N
  rw [e1, e2] at H
  conv => whnf
  repeat ((first | refine cnd_intro (by first | (simp; done) | (simp; omega) | omega | (simp only [Bool.and_eq_true, decide_eq_true_eq]; omega)) ?_ | refine Hp.ld H 0 rfl rfl ?_ | refine Hp.ld H 1 rfl rfl ?_ | refine Hp.ld H 2 rfl rfl ?_ | refine Hp.ld H 3 rfl rfl ?_ | refine Hp.ld H 4 rfl rfl ?_ | refine Hp.ld H 5 rfl rfl ?_ | (refine Hp.st H 0 rfl rfl rfl rfl rfl ?_; intro h H) | (refine Hp.st H 1 rfl rfl rfl rfl rfl ?_; intro h H) | (refine Hp.st H 2 rfl rfl rfl rfl rfl ?_; intro h H) | (refine Hp.st H 3 rfl rfl rfl rfl rfl ?_; intro h H) | (refine Hp.st H 4 rfl rfl rfl rfl rfl ?_; intro h H) | (refine Hp.st H 5 rfl rfl rfl rfl rfl ?_; intro h H) | (intro b h N; replace H := Hp.new H N; clear N) | refine Drawn.mk (by kernel_rfl) ?_ | refine FillK.row rfl ?_ | refine FillK.lit rfl ?_ | refine WrapK.i64 (by omega) (by omega) ?_ | refine WrapK.u64 (by omega) (by omega) ?_ | refine WrapK.u32 (by omega) (by omega) ?_ | refine WrapK.u8 (by omega) (by omega) ?_ | refine iteT (by omega) ?_ | refine iteF (by omega) ?_ | refine iteET (by omega) ?_ | refine iteEF (by omega) ?_ | refine iteNT (by omega) ?_ | refine iteNF (by omega) ?_); conv => whnf)
  refine ⟨g, rfl, ?_⟩
  have H : Hp h0 h1 (Res.ob g (.cells (ftCells (.slice none 0 0) (min (max n 0) 1024) (max age 0) 0).toArray 79 (0, 0)) :: []) := H
  exact (H.nil 85 9).pair

theorem fat_call (h0 : Heap) (g : Nat) (s : Value) (E : List FEnt) (room age lost v : Int) (m : Mac6) (hs : FtV h0 g s E room age lost) (hl : E.length ≤ 9223372036854775807) :
    CallK Try.prog 37 #[.pointer (some ⟨g, 0, none⟩), .int .i64 v, .agg m.cells.toArray] h0 fun w h' => Keep (fun _ => False) h0 h' ∧ ∃ n : Int, w = .int .i64 n ∧ FirstAt (FEnt.key v m) E n := by
  refine CallK.of_vc EW_ok [0, 1, 2, 4, 5, 6] Try.func37 rfl (Nat.le_of_ble_eq_true rfl) ?_
  have H := Hp.start h0
  conv => whnf
  intro g1 h1 N
  replace H := H.new N
  clear N
  conv => whnf
  intro g2 h2 N
  replace H := H.new N
  clear N
  conv => whnf
  repeat ((first | refine cnd_intro (by first | (simp; done) | (simp; omega) | omega | (simp only [Bool.and_eq_true, decide_eq_true_eq]; omega)) ?_ | refine Hp.ld H 0 rfl rfl ?_ | refine Hp.ld H 1 rfl rfl ?_ | refine Hp.ld H 2 rfl rfl ?_ | refine Hp.ld H 3 rfl rfl ?_ | refine Hp.ld H 4 rfl rfl ?_ | refine Hp.ld H 5 rfl rfl ?_ | (refine Hp.st H 0 rfl rfl rfl rfl rfl ?_; intro h H) | (refine Hp.st H 1 rfl rfl rfl rfl rfl ?_; intro h H) | (refine Hp.st H 2 rfl rfl rfl rfl rfl ?_; intro h H) | (refine Hp.st H 3 rfl rfl rfl rfl rfl ?_; intro h H) | (refine Hp.st H 4 rfl rfl rfl rfl rfl ?_; intro h H) | (refine Hp.st H 5 rfl rfl rfl rfl rfl ?_; intro h H) | (intro b h N; replace H := Hp.new H N; clear N) | refine Drawn.mk (by kernel_rfl) ?_ | refine FillK.row rfl ?_ | refine FillK.lit rfl ?_ | refine WrapK.i64 (by omega) (by omega) ?_ | refine WrapK.u64 (by omega) (by omega) ?_ | refine WrapK.u32 (by omega) (by omega) ?_ | refine WrapK.u8 (by omega) (by omega) ?_ | refine iteT (by omega) ?_ | refine iteF (by omega) ?_ | refine iteET (by omega) ?_ | refine iteEF (by omega) ?_ | refine iteNT (by omega) ?_ | refine iteNF (by omega) ?_); conv => whnf)
  refine LdK.lit (hs.keep H.keep).tab rfl ?_
  conv => whnf
  repeat ((first | refine cnd_intro (by first | (simp; done) | (simp; omega) | omega | (simp only [Bool.and_eq_true, decide_eq_true_eq]; omega)) ?_ | refine Hp.ld H 0 rfl rfl ?_ | refine Hp.ld H 1 rfl rfl ?_ | refine Hp.ld H 2 rfl rfl ?_ | refine Hp.ld H 3 rfl rfl ?_ | refine Hp.ld H 4 rfl rfl ?_ | refine Hp.ld H 5 rfl rfl ?_ | (refine Hp.st H 0 rfl rfl rfl rfl rfl ?_; intro h H) | (refine Hp.st H 1 rfl rfl rfl rfl rfl ?_; intro h H) | (refine Hp.st H 2 rfl rfl rfl rfl rfl ?_; intro h H) | (refine Hp.st H 3 rfl rfl rfl rfl rfl ?_; intro h H) | (refine Hp.st H 4 rfl rfl rfl rfl rfl ?_; intro h H) | (refine Hp.st H 5 rfl rfl rfl rfl rfl ?_; intro h H) | (intro b h N; replace H := Hp.new H N; clear N) | refine Drawn.mk (by kernel_rfl) ?_ | refine FillK.row rfl ?_ | refine FillK.lit rfl ?_ | refine WrapK.i64 (by omega) (by omega) ?_ | refine WrapK.u64 (by omega) (by omega) ?_ | refine WrapK.u32 (by omega) (by omega) ?_ | refine WrapK.u8 (by omega) (by omega) ?_ | refine iteT (by omega) ?_ | refine iteF (by omega) ?_ | refine iteET (by omega) ?_ | refine iteEF (by omega) ?_ | refine iteNT (by omega) ?_ | refine iteNF (by omega) ?_); conv => whnf)
  refine CallK.mono (findex_call _ s E _ _ (FEnt.key v m) (.inl rfl) (hs.keep H.keep).rows hl fun h x _ k => at1_call h g1 g2 v m x ((k.old g1 (lt_of_get (H.get 1 rfl)) (fun x => x)).trans (H.get 1 rfl)) ((k.old g2 (lt_of_get (H.get 0 rfl)) (fun x => x)).trans (H.get 0 rfl))) ?_
  rintro _ h3 ⟨k3, n, rfl, hn⟩
  replace H := H.and k3
  conv => whnf
  repeat ((first | refine cnd_intro (by first | (simp; done) | (simp; omega) | omega | (simp only [Bool.and_eq_true, decide_eq_true_eq]; omega)) ?_ | refine Hp.ld H 0 rfl rfl ?_ | refine Hp.ld H 1 rfl rfl ?_ | refine Hp.ld H 2 rfl rfl ?_ | refine Hp.ld H 3 rfl rfl ?_ | refine Hp.ld H 4 rfl rfl ?_ | refine Hp.ld H 5 rfl rfl ?_ | (refine Hp.st H 0 rfl rfl rfl rfl rfl ?_; intro h H) | (refine Hp.st H 1 rfl rfl rfl rfl rfl ?_; intro h H) | (refine Hp.st H 2 rfl rfl rfl rfl rfl ?_; intro h H) | (refine Hp.st H 3 rfl rfl rfl rfl rfl ?_; intro h H) | (refine Hp.st H 4 rfl rfl rfl rfl rfl ?_; intro h H) | (refine Hp.st H 5 rfl rfl rfl rfl rfl ?_; intro h H) | (intro b h N; replace H := Hp.new H N; clear N) | refine Drawn.mk (by kernel_rfl) ?_ | refine FillK.row rfl ?_ | refine FillK.lit rfl ?_ | refine WrapK.i64 (by omega) (by omega) ?_ | refine WrapK.u64 (by omega) (by omega) ?_ | refine WrapK.u32 (by omega) (by omega) ?_ | refine WrapK.u8 (by omega) (by omega) ?_ | refine iteT (by omega) ?_ | refine iteF (by omega) ?_ | refine iteET (by omega) ?_ | refine iteEF (by omega) ?_ | refine iteNT (by omega) ?_ | refine iteNF (by omega) ?_); conv => whnf)
  exact ⟨H.keep, n, rfl, hn⟩

def findE' (E : List FEnt) (v : Int) (m : Mac6) (age now : Int) : Int × Nat := match E.find? (FEnt.key v m) with
  | none => (0, 21)
  | some x => if x.old age now = true then (0, 21) else (x.port, 0)

def duo (x : Int × Nat) : Value := .tuple #[.int .i64 x.1, .int .i64 (x.2 : Nat)]

theorem ffind_call (h0 : Heap) (g : Nat) (s : Value) (E : List FEnt) (room age lost v now : Int) (m : Mac6) (hs : FtV h0 g s E room age lost) (hg : GoodE E) (hn1 : 0 ≤ now) (hn2 : now ≤ 1152921504606846976) :
    CallK Try.prog 23 #[.pointer (some ⟨g, 0, none⟩), .int .i64 v, .agg m.cells.toArray, .int .i64 now] h0 fun w h' => Keep (fun _ => False) h0 h' ∧ w = duo (findE' E v m age now) := by
  refine CallK.of_vc EW_ok [0, 1, 2, 3, 6, 8, 9, 10, 28] Try.func23 rfl (Nat.le_of_ble_eq_true rfl) ?_
  have H := Hp.start h0
  have hl := hg.len
  conv => whnf
  intro g1 h1 N
  replace H := H.new N
  clear N
  conv => whnf
  repeat ((first | refine cnd_intro (by first | (simp; done) | (simp; omega) | omega | (simp only [Bool.and_eq_true, decide_eq_true_eq]; omega)) ?_ | refine Hp.ld H 0 rfl rfl ?_ | refine Hp.ld H 1 rfl rfl ?_ | refine Hp.ld H 2 rfl rfl ?_ | refine Hp.ld H 3 rfl rfl ?_ | refine Hp.ld H 4 rfl rfl ?_ | refine Hp.ld H 5 rfl rfl ?_ | (refine Hp.st H 0 rfl rfl rfl rfl rfl ?_; intro h H) | (refine Hp.st H 1 rfl rfl rfl rfl rfl ?_; intro h H) | (refine Hp.st H 2 rfl rfl rfl rfl rfl ?_; intro h H) | (refine Hp.st H 3 rfl rfl rfl rfl rfl ?_; intro h H) | (refine Hp.st H 4 rfl rfl rfl rfl rfl ?_; intro h H) | (refine Hp.st H 5 rfl rfl rfl rfl rfl ?_; intro h H) | (intro b h N; replace H := Hp.new H N; clear N) | refine Drawn.mk (by kernel_rfl) ?_ | refine FillK.row rfl ?_ | refine FillK.lit rfl ?_ | refine WrapK.i64 (by omega) (by omega) ?_ | refine WrapK.u64 (by omega) (by omega) ?_ | refine WrapK.u32 (by omega) (by omega) ?_ | refine WrapK.u8 (by omega) (by omega) ?_ | refine iteT (by omega) ?_ | refine iteF (by omega) ?_ | refine iteET (by omega) ?_ | refine iteEF (by omega) ?_ | refine iteNT (by omega) ?_ | refine iteNF (by omega) ?_); conv => whnf)
  refine CallK.mono (fat_call _ g s E room age lost v m (hs.keep H.keep) (by omega)) ?_
  rintro _ h3 ⟨k3, n, rfl, hn⟩
  replace H := H.and k3
  rcases hn with ⟨rfl, ha⟩ | ⟨i, x, rfl, hx, hp, ha⟩
  · rw [show findE' E v m age now = (0, 21) by unfold findE'; rw [none_find ha]]
    conv => whnf
    repeat ((first | refine cnd_intro (by first | (simp; done) | (simp; omega) | omega | (simp only [Bool.and_eq_true, decide_eq_true_eq]; omega)) ?_ | refine Hp.ld H 0 rfl rfl ?_ | refine Hp.ld H 1 rfl rfl ?_ | refine Hp.ld H 2 rfl rfl ?_ | refine Hp.ld H 3 rfl rfl ?_ | refine Hp.ld H 4 rfl rfl ?_ | refine Hp.ld H 5 rfl rfl ?_ | (refine Hp.st H 0 rfl rfl rfl rfl rfl ?_; intro h H) | (refine Hp.st H 1 rfl rfl rfl rfl rfl ?_; intro h H) | (refine Hp.st H 2 rfl rfl rfl rfl rfl ?_; intro h H) | (refine Hp.st H 3 rfl rfl rfl rfl rfl ?_; intro h H) | (refine Hp.st H 4 rfl rfl rfl rfl rfl ?_; intro h H) | (refine Hp.st H 5 rfl rfl rfl rfl rfl ?_; intro h H) | (intro b h N; replace H := Hp.new H N; clear N) | refine Drawn.mk (by kernel_rfl) ?_ | refine FillK.row rfl ?_ | refine FillK.lit rfl ?_ | refine WrapK.i64 (by omega) (by omega) ?_ | refine WrapK.u64 (by omega) (by omega) ?_ | refine WrapK.u32 (by omega) (by omega) ?_ | refine WrapK.u8 (by omega) (by omega) ?_ | refine iteT (by omega) ?_ | refine iteF (by omega) ?_ | refine iteET (by omega) ?_ | refine iteEF (by omega) ?_ | refine iteNT (by omega) ?_ | refine iteNF (by omega) ?_); conv => whnf)
    exact ⟨H.keep, rfl⟩
  · have hi : i < E.length := by
      rcases Nat.lt_or_ge i E.length with h | h
      · exact h
      · rw [List.getElem?_eq_none h] at hx; cases hx
    have he : findE' E v m age now = if x.old age now = true then (0, 21) else (x.port, 0) := by unfold findE'; rw [first_find hx hp ha]
    rw [he]
    clear he
    have hxs := hg.seen x (List.mem_of_getElem? hx)
    obtain ⟨A, c, rfl, hc, _⟩ := hs.rows.out
    obtain ⟨bb, oo, rfl⟩ := hs.rows.some (by omega)
    have hv : ∀ {h : Heap} {rs : List Res}, Hp h0 h rs → FtV h g (.slice (some ⟨bb, oo, none⟩) E.length c) E room age lost := fun H => hs.keep H.keep
    conv => whnf
    repeat ((first | refine cnd_intro (by first | (simp; done) | (simp; omega) | omega | (simp only [Bool.and_eq_true, decide_eq_true_eq]; omega)) ?_ | refine Hp.ld H 0 rfl rfl ?_ | refine Hp.ld H 1 rfl rfl ?_ | refine Hp.ld H 2 rfl rfl ?_ | refine Hp.ld H 3 rfl rfl ?_ | refine Hp.ld H 4 rfl rfl ?_ | refine Hp.ld H 5 rfl rfl ?_ | (refine Hp.st H 0 rfl rfl rfl rfl rfl ?_; intro h H) | (refine Hp.st H 1 rfl rfl rfl rfl rfl ?_; intro h H) | (refine Hp.st H 2 rfl rfl rfl rfl rfl ?_; intro h H) | (refine Hp.st H 3 rfl rfl rfl rfl rfl ?_; intro h H) | (refine Hp.st H 4 rfl rfl rfl rfl rfl ?_; intro h H) | (refine Hp.st H 5 rfl rfl rfl rfl rfl ?_; intro h H) | (intro b h N; replace H := Hp.new H N; clear N) | refine Drawn.mk (by kernel_rfl) ?_ | refine FillK.row rfl ?_ | refine FillK.lit rfl ?_ | refine WrapK.i64 (by omega) (by omega) ?_ | refine WrapK.u64 (by omega) (by omega) ?_ | refine WrapK.u32 (by omega) (by omega) ?_ | refine WrapK.u8 (by omega) (by omega) ?_ | refine iteT (by omega) ?_ | refine iteF (by omega) ?_ | refine iteET (by omega) ?_ | refine iteEF (by omega) ?_ | refine iteNT (by omega) ?_ | refine iteNF (by omega) ?_); conv => whnf)
    refine LdK.lit (hv H).tab rfl ?_
    conv => whnf
    repeat ((first | refine cnd_intro (by first | (simp; done) | (simp; omega) | omega | (simp only [Bool.and_eq_true, decide_eq_true_eq]; omega)) ?_ | refine Hp.ld H 0 rfl rfl ?_ | refine Hp.ld H 1 rfl rfl ?_ | refine Hp.ld H 2 rfl rfl ?_ | refine Hp.ld H 3 rfl rfl ?_ | refine Hp.ld H 4 rfl rfl ?_ | refine Hp.ld H 5 rfl rfl ?_ | (refine Hp.st H 0 rfl rfl rfl rfl rfl ?_; intro h H) | (refine Hp.st H 1 rfl rfl rfl rfl rfl ?_; intro h H) | (refine Hp.st H 2 rfl rfl rfl rfl rfl ?_; intro h H) | (refine Hp.st H 3 rfl rfl rfl rfl rfl ?_; intro h H) | (refine Hp.st H 4 rfl rfl rfl rfl rfl ?_; intro h H) | (refine Hp.st H 5 rfl rfl rfl rfl rfl ?_; intro h H) | (intro b h N; replace H := Hp.new H N; clear N) | refine Drawn.mk (by kernel_rfl) ?_ | refine FillK.row rfl ?_ | refine FillK.lit rfl ?_ | refine WrapK.i64 (by omega) (by omega) ?_ | refine WrapK.u64 (by omega) (by omega) ?_ | refine WrapK.u32 (by omega) (by omega) ?_ | refine WrapK.u8 (by omega) (by omega) ?_ | refine iteT (by omega) ?_ | refine iteF (by omega) ?_ | refine iteET (by omega) ?_ | refine iteEF (by omega) ?_ | refine iteNT (by omega) ?_ | refine iteNF (by omega) ?_); conv => whnf)
    refine rows_ld (hv H).rows hx rfl rfl rfl (by first | omega | (simp; done) | (simp; omega)) ?_
    conv => whnf
    repeat ((first | refine cnd_intro (by first | (simp; done) | (simp; omega) | omega | (simp only [Bool.and_eq_true, decide_eq_true_eq]; omega)) ?_ | refine Hp.ld H 0 rfl rfl ?_ | refine Hp.ld H 1 rfl rfl ?_ | refine Hp.ld H 2 rfl rfl ?_ | refine Hp.ld H 3 rfl rfl ?_ | refine Hp.ld H 4 rfl rfl ?_ | refine Hp.ld H 5 rfl rfl ?_ | (refine Hp.st H 0 rfl rfl rfl rfl rfl ?_; intro h H) | (refine Hp.st H 1 rfl rfl rfl rfl rfl ?_; intro h H) | (refine Hp.st H 2 rfl rfl rfl rfl rfl ?_; intro h H) | (refine Hp.st H 3 rfl rfl rfl rfl rfl ?_; intro h H) | (refine Hp.st H 4 rfl rfl rfl rfl rfl ?_; intro h H) | (refine Hp.st H 5 rfl rfl rfl rfl rfl ?_; intro h H) | (intro b h N; replace H := Hp.new H N; clear N) | refine Drawn.mk (by kernel_rfl) ?_ | refine FillK.row rfl ?_ | refine FillK.lit rfl ?_ | refine WrapK.i64 (by omega) (by omega) ?_ | refine WrapK.u64 (by omega) (by omega) ?_ | refine WrapK.u32 (by omega) (by omega) ?_ | refine WrapK.u8 (by omega) (by omega) ?_ | refine iteT (by omega) ?_ | refine iteF (by omega) ?_ | refine iteET (by omega) ?_ | refine iteEF (by omega) ?_ | refine iteNT (by omega) ?_ | refine iteNF (by omega) ?_); conv => whnf)
    refine CallK.mono (old_call _ g _ room age lost now x (hv H).tab (by omega) (by omega) hn1 (by omega)) ?_
    rintro _ h4 ⟨k4, rfl⟩
    replace H := H.and k4
    cases ho : x.old age now with
    | true =>
      rw [if_pos rfl]
      conv => whnf
      repeat ((first | refine cnd_intro (by first | (simp; done) | (simp; omega) | omega | (simp only [Bool.and_eq_true, decide_eq_true_eq]; omega)) ?_ | refine Hp.ld H 0 rfl rfl ?_ | refine Hp.ld H 1 rfl rfl ?_ | refine Hp.ld H 2 rfl rfl ?_ | refine Hp.ld H 3 rfl rfl ?_ | refine Hp.ld H 4 rfl rfl ?_ | refine Hp.ld H 5 rfl rfl ?_ | (refine Hp.st H 0 rfl rfl rfl rfl rfl ?_; intro h H) | (refine Hp.st H 1 rfl rfl rfl rfl rfl ?_; intro h H) | (refine Hp.st H 2 rfl rfl rfl rfl rfl ?_; intro h H) | (refine Hp.st H 3 rfl rfl rfl rfl rfl ?_; intro h H) | (refine Hp.st H 4 rfl rfl rfl rfl rfl ?_; intro h H) | (refine Hp.st H 5 rfl rfl rfl rfl rfl ?_; intro h H) | (intro b h N; replace H := Hp.new H N; clear N) | refine Drawn.mk (by kernel_rfl) ?_ | refine FillK.row rfl ?_ | refine FillK.lit rfl ?_ | refine WrapK.i64 (by omega) (by omega) ?_ | refine WrapK.u64 (by omega) (by omega) ?_ | refine WrapK.u32 (by omega) (by omega) ?_ | refine WrapK.u8 (by omega) (by omega) ?_ | refine iteT (by omega) ?_ | refine iteF (by omega) ?_ | refine iteET (by omega) ?_ | refine iteEF (by omega) ?_ | refine iteNT (by omega) ?_ | refine iteNF (by omega) ?_); conv => whnf)
      exact ⟨H.keep, rfl⟩
    | false =>
      rw [if_neg (by decide)]
      conv => whnf
      repeat ((first | refine cnd_intro (by first | (simp; done) | (simp; omega) | omega | (simp only [Bool.and_eq_true, decide_eq_true_eq]; omega)) ?_ | refine Hp.ld H 0 rfl rfl ?_ | refine Hp.ld H 1 rfl rfl ?_ | refine Hp.ld H 2 rfl rfl ?_ | refine Hp.ld H 3 rfl rfl ?_ | refine Hp.ld H 4 rfl rfl ?_ | refine Hp.ld H 5 rfl rfl ?_ | (refine Hp.st H 0 rfl rfl rfl rfl rfl ?_; intro h H) | (refine Hp.st H 1 rfl rfl rfl rfl rfl ?_; intro h H) | (refine Hp.st H 2 rfl rfl rfl rfl rfl ?_; intro h H) | (refine Hp.st H 3 rfl rfl rfl rfl rfl ?_; intro h H) | (refine Hp.st H 4 rfl rfl rfl rfl rfl ?_; intro h H) | (refine Hp.st H 5 rfl rfl rfl rfl rfl ?_; intro h H) | (intro b h N; replace H := Hp.new H N; clear N) | refine Drawn.mk (by kernel_rfl) ?_ | refine FillK.row rfl ?_ | refine FillK.lit rfl ?_ | refine WrapK.i64 (by omega) (by omega) ?_ | refine WrapK.u64 (by omega) (by omega) ?_ | refine WrapK.u32 (by omega) (by omega) ?_ | refine WrapK.u8 (by omega) (by omega) ?_ | refine iteT (by omega) ?_ | refine iteF (by omega) ?_ | refine iteET (by omega) ?_ | refine iteEF (by omega) ?_ | refine iteNT (by omega) ?_ | refine iteNF (by omega) ?_); conv => whnf)
      refine LdK.lit (hv H).tab rfl ?_
      conv => whnf
      repeat ((first | refine cnd_intro (by first | (simp; done) | (simp; omega) | omega | (simp only [Bool.and_eq_true, decide_eq_true_eq]; omega)) ?_ | refine Hp.ld H 0 rfl rfl ?_ | refine Hp.ld H 1 rfl rfl ?_ | refine Hp.ld H 2 rfl rfl ?_ | refine Hp.ld H 3 rfl rfl ?_ | refine Hp.ld H 4 rfl rfl ?_ | refine Hp.ld H 5 rfl rfl ?_ | (refine Hp.st H 0 rfl rfl rfl rfl rfl ?_; intro h H) | (refine Hp.st H 1 rfl rfl rfl rfl rfl ?_; intro h H) | (refine Hp.st H 2 rfl rfl rfl rfl rfl ?_; intro h H) | (refine Hp.st H 3 rfl rfl rfl rfl rfl ?_; intro h H) | (refine Hp.st H 4 rfl rfl rfl rfl rfl ?_; intro h H) | (refine Hp.st H 5 rfl rfl rfl rfl rfl ?_; intro h H) | (intro b h N; replace H := Hp.new H N; clear N) | refine Drawn.mk (by kernel_rfl) ?_ | refine FillK.row rfl ?_ | refine FillK.lit rfl ?_ | refine WrapK.i64 (by omega) (by omega) ?_ | refine WrapK.u64 (by omega) (by omega) ?_ | refine WrapK.u32 (by omega) (by omega) ?_ | refine WrapK.u8 (by omega) (by omega) ?_ | refine iteT (by omega) ?_ | refine iteF (by omega) ?_ | refine iteET (by omega) ?_ | refine iteEF (by omega) ?_ | refine iteNT (by omega) ?_ | refine iteNF (by omega) ?_); conv => whnf)
      refine LdK.elem (y := i64T) (off := i * 9 + 7) (((hv H).rows.at_ hx).sub (j := 7) (m := 1) (ds := [.int .i64 x.port]) (by decide) rfl rfl) rfl (by first | omega | (simp; done) | (simp; omega)) (.inr ⟨_, rfl⟩) ?_
      conv => whnf
      repeat ((first | refine cnd_intro (by first | (simp; done) | (simp; omega) | omega | (simp only [Bool.and_eq_true, decide_eq_true_eq]; omega)) ?_ | refine Hp.ld H 0 rfl rfl ?_ | refine Hp.ld H 1 rfl rfl ?_ | refine Hp.ld H 2 rfl rfl ?_ | refine Hp.ld H 3 rfl rfl ?_ | refine Hp.ld H 4 rfl rfl ?_ | refine Hp.ld H 5 rfl rfl ?_ | (refine Hp.st H 0 rfl rfl rfl rfl rfl ?_; intro h H) | (refine Hp.st H 1 rfl rfl rfl rfl rfl ?_; intro h H) | (refine Hp.st H 2 rfl rfl rfl rfl rfl ?_; intro h H) | (refine Hp.st H 3 rfl rfl rfl rfl rfl ?_; intro h H) | (refine Hp.st H 4 rfl rfl rfl rfl rfl ?_; intro h H) | (refine Hp.st H 5 rfl rfl rfl rfl rfl ?_; intro h H) | (intro b h N; replace H := Hp.new H N; clear N) | refine Drawn.mk (by kernel_rfl) ?_ | refine FillK.row rfl ?_ | refine FillK.lit rfl ?_ | refine WrapK.i64 (by omega) (by omega) ?_ | refine WrapK.u64 (by omega) (by omega) ?_ | refine WrapK.u32 (by omega) (by omega) ?_ | refine WrapK.u8 (by omega) (by omega) ?_ | refine iteT (by omega) ?_ | refine iteF (by omega) ?_ | refine iteET (by omega) ?_ | refine iteEF (by omega) ?_ | refine iteNT (by omega) ?_ | refine iteNF (by omega) ?_); conv => whnf)
      exact ⟨H.keep, rfl⟩

theorem fsweep_call {h0 h : Heap} {rs : List Res} (H : Hp h0 h rs) (i g : Nat) (s : Value) (E : List FEnt) (room age lost now : Int) (hn : nth rs i = some (Res.ft g s E room age lost)) (hg : GoodE E) (hn1 : 0 ≤ now) (hn2 : now ≤ 1152921504606846976) :
    CallK Try.prog 36 #[.pointer (some ⟨g, 0, none⟩), .int .i64 now] h fun w h' => w = .int .i64 ((E.length - (E.filter fun y => !(y.old age now)).length : Nat) : Nat) ∧ ∃ s', Hp h0 h' (setN rs i (Res.ft g s' (E.filter fun y => !(y.old age now)) room age lost)) := by
  refine CallK.of_vc EW_ok [0, 1, 2, 3, 4, 5] Try.func36 rfl (Nat.le_of_ble_eq_true rfl) ?_
  have hl := hg.len
  have hle := List.length_filter_le (fun y : FEnt => !(y.old age now)) E
  have H : Hp h0 h (Res.own s 85 9 E.length (E.flatMap FEnt.cells) :: Res.ob g (.cells (ftCells s room age lost).toArray 79 (0, 0)) :: delN rs i) := ft_open (H.pick i hn)
  obtain ⟨A, c, rfl⟩ := own_shape (H.get 0 rfl)
  conv => whnf
  intro g1 h1 N
  replace H := H.new N
  clear N
  conv => whnf
  intro g2 h2 N
  replace H := H.new N
  clear N
  replace H := H.pick 2 rfl
  conv => whnf
  repeat ((first | refine cnd_intro (by first | (simp; done) | (simp; omega) | omega | (simp only [Bool.and_eq_true, decide_eq_true_eq]; omega)) ?_ | refine Hp.ld H 0 rfl rfl ?_ | refine Hp.ld H 1 rfl rfl ?_ | refine Hp.ld H 2 rfl rfl ?_ | refine Hp.ld H 3 rfl rfl ?_ | refine Hp.ld H 4 rfl rfl ?_ | refine Hp.ld H 5 rfl rfl ?_ | (refine Hp.st H 0 rfl rfl rfl rfl rfl ?_; intro h H) | (refine Hp.st H 1 rfl rfl rfl rfl rfl ?_; intro h H) | (refine Hp.st H 2 rfl rfl rfl rfl rfl ?_; intro h H) | (refine Hp.st H 3 rfl rfl rfl rfl rfl ?_; intro h H) | (refine Hp.st H 4 rfl rfl rfl rfl rfl ?_; intro h H) | (refine Hp.st H 5 rfl rfl rfl rfl rfl ?_; intro h H) | (intro b h N; replace H := Hp.new H N; clear N) | refine FillK.row rfl ?_ | refine FillK.lit rfl ?_ | refine WrapK.i64 (by omega) (by omega) ?_ | refine WrapK.u64 (by omega) (by omega) ?_ | refine WrapK.u32 (by omega) (by omega) ?_ | refine WrapK.u8 (by omega) (by omega) ?_ | refine iteT (by omega) ?_ | refine iteF (by omega) ?_ | refine iteET (by omega) ?_ | refine iteEF (by omega) ?_ | refine iteNT (by omega) ?_ | refine iteNF (by omega) ?_); conv => whnf)
  refine Drawn.keys [1, 2, 3, 4, 5] [(0, []), (6, [])] [7, 8, 9] (by kernel_rfl) ?_
  conv => whnf
  repeat ((first | refine cnd_intro (by first | (simp; done) | (simp; omega) | omega | (simp only [Bool.and_eq_true, decide_eq_true_eq]; omega)) ?_ | refine Hp.ld H 0 rfl rfl ?_ | refine Hp.ld H 1 rfl rfl ?_ | refine Hp.ld H 2 rfl rfl ?_ | refine Hp.ld H 3 rfl rfl ?_ | refine Hp.ld H 4 rfl rfl ?_ | refine Hp.ld H 5 rfl rfl ?_ | (refine Hp.st H 0 rfl rfl rfl rfl rfl ?_; intro h H) | (refine Hp.st H 1 rfl rfl rfl rfl rfl ?_; intro h H) | (refine Hp.st H 2 rfl rfl rfl rfl rfl ?_; intro h H) | (refine Hp.st H 3 rfl rfl rfl rfl rfl ?_; intro h H) | (refine Hp.st H 4 rfl rfl rfl rfl rfl ?_; intro h H) | (refine Hp.st H 5 rfl rfl rfl rfl rfl ?_; intro h H) | (intro b h N; replace H := Hp.new H N; clear N) | refine Drawn.mk (by kernel_rfl) ?_ | refine FillK.row rfl ?_ | refine FillK.lit rfl ?_ | refine WrapK.i64 (by omega) (by omega) ?_ | refine WrapK.u64 (by omega) (by omega) ?_ | refine WrapK.u32 (by omega) (by omega) ?_ | refine WrapK.u8 (by omega) (by omega) ?_ | refine iteT (by omega) ?_ | refine iteF (by omega) ?_ | refine iteET (by omega) ?_ | refine iteEF (by omega) ?_ | refine iteNT (by omega) ?_ | refine iteNF (by omega) ?_); conv => whnf)
  refine ⟨fun D val h => (D 0 = true → val 0 = .pointer (some ⟨g, 0, none⟩)) ∧ Hp h0 h (cond (D 6) (Res.own (val 6) 85 9 (E.filter fun y => !(y.old age now)).length ((E.filter fun y => !(y.old age now)).flatMap FEnt.cells)) (Res.own (.slice A E.length c) 85 9 E.length (E.flatMap FEnt.cells)) ::
    Res.ob g2 (.cells ([.int .i64 now] : List Value).toArray 2 (0, 0)) :: Res.ob g1 (.cells ([.pointer (some ⟨g, 0, none⟩)] : List Value).toArray 28 (0, 0)) :: Res.ob g (.cells (ftCells (.slice A E.length c) room age lost).toArray 79 (0, 0)) :: delN rs i), fun _ => .bool false, ⟨fun h => absurd (show false = true from h) (by decide), H⟩, And.intro ?_ (And.intro ?_ trivial), ?_⟩
  · rintro D val h4 ⟨v0, H⟩
    conv => whnf
    refine Hp.ld H 2 rfl rfl ?_
    exact ⟨fun _ => rfl, H⟩
  · rintro D val h4 ⟨v0, H⟩
    conv => whnf
    refine CallK.mono (fdeletefunc_call H _ _ (FEnt.old age now) (.inr rfl) (by omega) (fun h' r H' x hx => sweep1_call h' g1 g2 g _ room age lost now x (H'.get 2 rfl) (H'.get 1 rfl) (H'.get 3 rfl) (by have := hg.seen x hx; omega) (by have := hg.seen x hx; omega) hn1 (by omega))) ?_
    rintro v' h5 H
    exact ⟨v0, H⟩
  clear H
  rintro val h4 ⟨v0, H⟩
  have H : Hp h0 h4 (Res.own (val 6) 85 9 (E.filter fun y => !(y.old age now)).length ((E.filter fun y => !(y.old age now)).flatMap FEnt.cells) ::
    Res.ob g2 (.cells ([.int .i64 now] : List Value).toArray 2 (0, 0)) :: Res.ob g1 (.cells ([.pointer (some ⟨g, 0, none⟩)] : List Value).toArray 28 (0, 0)) :: Res.ob g (.cells (ftCells (.slice A E.length c) room age lost).toArray 79 (0, 0)) :: delN rs i) := H
  generalize hE : (E.filter fun y => !(y.old age now)) = E' at *
  obtain ⟨A6, c6, hv6⟩ := own_shape (H.get 0 rfl)
  conv => whnf
  rw [v0 rfl]
  conv => whnf
  refine Hp.stAt H 3 rfl (y := ⟨.slice 85, 1, 24, false, some (.slice none 0 0)⟩) (o := 0) rfl rfl (by rw [hv6]; rfl) (by rw [hv6]; rfl) rfl (by show 0 < 4; decide) ?_
  clear H
  intro h5 H
  have H : Hp h0 h5 (Res.own (val 6) 85 9 E'.length (E'.flatMap FEnt.cells) ::
    Res.ob g2 (.cells ([.int .i64 now] : List Value).toArray 2 (0, 0)) :: Res.ob g1 (.cells ([.pointer (some ⟨g, 0, none⟩)] : List Value).toArray 28 (0, 0)) :: Res.ob g (.cells (ftCells (val 6) room age lost).toArray 79 (0, 0)) :: delN rs i) := H
  rw [hv6] at H
  conv => whnf
  repeat ((first | refine cnd_intro (by first | (simp; done) | (simp; omega) | omega | (simp only [Bool.and_eq_true, decide_eq_true_eq]; omega)) ?_ | refine Hp.ld H 0 rfl rfl ?_ | refine Hp.ld H 1 rfl rfl ?_ | refine Hp.ld H 2 rfl rfl ?_ | refine Hp.ld H 3 rfl rfl ?_ | refine Hp.ld H 4 rfl rfl ?_ | refine Hp.ld H 5 rfl rfl ?_ | (refine Hp.st H 0 rfl rfl rfl rfl rfl ?_; intro h H) | (refine Hp.st H 1 rfl rfl rfl rfl rfl ?_; intro h H) | (refine Hp.st H 2 rfl rfl rfl rfl rfl ?_; intro h H) | (refine Hp.st H 3 rfl rfl rfl rfl rfl ?_; intro h H) | (refine Hp.st H 4 rfl rfl rfl rfl rfl ?_; intro h H) | (refine Hp.st H 5 rfl rfl rfl rfl rfl ?_; intro h H) | (intro b h N; replace H := Hp.new H N; clear N) | refine Drawn.mk (by kernel_rfl) ?_ | refine FillK.row rfl ?_ | refine FillK.lit rfl ?_ | refine WrapK.i64 (by omega) (by omega) ?_ | refine WrapK.u64 (by omega) (by omega) ?_ | refine WrapK.u32 (by omega) (by omega) ?_ | refine WrapK.u8 (by omega) (by omega) ?_ | refine iteT (by omega) ?_ | refine iteF (by omega) ?_ | refine iteET (by omega) ?_ | refine iteEF (by omega) ?_ | refine iteNT (by omega) ?_ | refine iteNF (by omega) ?_); conv => whnf)
  refine ⟨?_, _, ((H.drop 1).drop 1).pair.unpick hn⟩
  rw [tup_one]
  congr 1
  omega

theorem group_call (h0 : Heap) (m : Mac6) : CallK Try.prog 22 #[.agg m.cells.toArray] h0 fun w h' => Keep (fun _ => False) h0 h' ∧ w = .bool m.group := by
  refine CallK.of_vc EW_ok [0, 1, 2] Try.func22 rfl (Nat.le_of_ble_eq_true rfl) ?_
  have H := Hp.start h0
  conv => whnf
  repeat ((first | refine cnd_intro (by first | (simp; done) | (simp; omega) | omega | (simp only [Bool.and_eq_true, decide_eq_true_eq]; omega)) ?_ | refine Hp.ld H 0 rfl rfl ?_ | refine Hp.ld H 1 rfl rfl ?_ | refine Hp.ld H 2 rfl rfl ?_ | refine Hp.ld H 3 rfl rfl ?_ | refine Hp.ld H 4 rfl rfl ?_ | refine Hp.ld H 5 rfl rfl ?_ | (refine Hp.st H 0 rfl rfl rfl rfl rfl ?_; intro h H) | (refine Hp.st H 1 rfl rfl rfl rfl rfl ?_; intro h H) | (refine Hp.st H 2 rfl rfl rfl rfl rfl ?_; intro h H) | (refine Hp.st H 3 rfl rfl rfl rfl rfl ?_; intro h H) | (refine Hp.st H 4 rfl rfl rfl rfl rfl ?_; intro h H) | (refine Hp.st H 5 rfl rfl rfl rfl rfl ?_; intro h H) | (intro b h N; replace H := Hp.new H N; clear N) | refine Drawn.mk (by kernel_rfl) ?_ | refine FillK.row rfl ?_ | refine FillK.lit rfl ?_ | refine WrapK.i64 (by omega) (by omega) ?_ | refine WrapK.u64 (by omega) (by omega) ?_ | refine WrapK.u32 (by omega) (by omega) ?_ | refine WrapK.u8 (by omega) (by omega) ?_ | refine iteT (by omega) ?_ | refine iteF (by omega) ?_ | refine iteET (by omega) ?_ | refine iteEF (by omega) ?_ | refine iteNT (by omega) ?_ | refine iteNF (by omega) ?_); conv => whnf)
  refine ⟨H.keep, ?_⟩
  rw [tup_one]
  have h1 := m.a0.toNat_lt
  have h2 := bAnd_u8 (a := m.a0.toNat) (b := 1) h1 (by decide)
  rw [show ((1 : Nat) : Int) = 1 from rfl] at h2
  rw [h2, show (m.a0.toNat &&& 1) = m.a0.toNat % 2 from Nat.and_two_pow_sub_one_eq_mod _ 1]
  unfold Mac6.group
  congr 1
  rw [Bool.eq_iff_iff, beq_iff_eq, decide_eq_true_eq]
  omega

end Go.Proofs.Ytcjilkemfmhkgaa
