import Derived.Test.YtpcjdcpfbpdcfaaStream2
namespace Go.Proofs.Ytpcjdcpfbpdcfaa
open Go.Vc
set_option maxRecDepth 10000
set_option maxHeartbeats 4000000

/-! ### stream: a filter goes, or comes -/

theorem row_cut {h : Heap} {b i m s : Nat} {T : TypeId} {z : Nat × Nat} {l a ys r : List Value} (hb : h[b]? = some (.cells l.toArray T z)) (hl : l = a ++ ys ++ r) (ha : a.length = i * s) (hy : m = i → ys = []) : Row h (cutA (some ⟨b, 0, none⟩) i m s) ys := by
  rw [cutA_some]
  split
  · rename_i e
    rw [hy e]
    exact Row.nil _ _
  · exact Row.of_cells hb hl (by omega)

theorem Hp.appendIn' {E : Env} (hE : E.Ok) {t tx e ty : Nat} {y z x0 : Ty} {v1 v2 : Value} {b n cap m c : Nat} {B : Option Addr} {h0 h : Heap} {rs : List Res} {l a q r ys : List Value} {T : TypeId} {K : Value → Heap → Prop} (H : Hp h0 h rs) (i : Nat) (hn : nth rs i = some (Res.ob b (.cells l.toArray T (0, 0))))
    (h1' : v1 = .slice (some ⟨b, 0, none⟩) n cap) (h2' : v2 = .slice B m c)
    (hl : l = a ++ q ++ r) (hy : E.ty t = some y) (hd : y.desc = .slice e) (hz : E.ty e = some z) (hx0 : E.ty tx = some x0) (hdx : ∀ k, x0.desc ≠ .int k) (hB : Row h B ys) (hys : m * z.size = ys.length) (hB0 : B = none → m = 0) (hfit : n + m ≤ cap)
    (ha : n * z.size = a.length) (hq : q.length = ys.length) (h1 : ys.all oneCell = true)
    (k : ∀ h', Hp h0 h' (setN rs i (Res.ob b (.cells (a ++ ys ++ r).toArray T (0, 0)))) → K (.slice (some ⟨b, 0, none⟩) (n + m) cap) h') :
    SemK E.P (Builtin.append_ #[t, tx] ty #[v1, v2]) h K := by
  subst h1' h2'
  exact Hp.appendIn hE H i hn hl hy hd hz hx0 hdx hB hys hB0 hfit ha hq h1 k

theorem Hp.clearIn' {E : Env} (hE : E.Ok) {t e ty : Nat} {y z : Ty} {zv v : Value} {b o n c : Nat} {h0 h : Heap} {rs : List Res} {l a q r : List Value} {T : TypeId} {K : Value → Heap → Prop} (H : Hp h0 h rs) (i : Nat) (hn : nth rs i = some (Res.ob b (.cells l.toArray T (0, 0))))
    (hv : v = .slice (some ⟨b, o, none⟩) n c) (hl : l = a ++ q ++ r) (hy : E.ty t = some y) (hd : y.desc = .slice e) (hz : E.ty e = some z) (hzv : z.zero = some zv) (hz1 : zv.cells.toList.all oneCell = true) (ho : n = 0 ∨ o = a.length) (hq : q.length = n * zv.cells.size)
    (k : ∀ h' ys, ys.length = q.length → Hp h0 h' (setN rs i (Res.ob b (.cells (a ++ ys ++ r).toArray T (0, 0)))) → K (.tuple #[]) h') :
    SemK E.P (Builtin.clear_ #[t] ty #[v]) h K := by
  subst hv
  exact Hp.clearIn hE H i hn hl hy hd hz hzv hz1 ho hq k

theorem flat_cut {α β : Type} {f : α → List β} {fs : List α} {i : Nat} {x : α} (hx : fs[i]? = some x) : fs.flatMap f = (fs.take i).flatMap f ++ (f x ++ (fs.drop (i + 1)).flatMap f) := by
  have hi : i < fs.length := by
    rcases Nat.lt_or_ge i fs.length with h | h
    · exact h
    · rw [List.getElem?_eq_none h] at hx; cases hx
  rw [List.getElem?_eq_getElem hi] at hx
  injection hx with hx
  conv => lhs; rw [← List.take_append_drop i fs, List.drop_eq_getElem_cons hi, hx]
  rw [List.flatMap_append, List.flatMap_cons]

theorem delete_call {h0 h : Heap} {rs : List Res} {s : Value} {fs : List Flt} (H : Hp h0 h (Res.own s 54 9 fs.length (fs.flatMap Flt.cells) :: rs)) (i : Nat) (hi : i < fs.length) (hl : fs.length ≤ 1000000) :
    CallK Try.prog 57 #[s, .int .i64 (i : Nat), .int .i64 ((i : Int) + 1)] h fun v h' => Hp h0 h' (Res.own v 54 9 (fs.eraseIdx i).length ((fs.eraseIdx i).flatMap Flt.cells) :: rs) := by
  obtain ⟨b, cap, r, rfl, hcap, hlen, H⟩ := H.opened 0 rfl (by omega) (by decide)
  obtain ⟨x, hx⟩ := list_at hi
  have hf : ∀ y : Flt, y.cells.length = 9 := fun _ => rfl
  have hcut := flat_cut (f := Flt.cells) hx
  have hlA : ((fs.take i).flatMap Flt.cells).length = i * 9 := by rw [flat_length hf, List.length_take, Nat.min_eq_left (by omega)]
  have hlD : ((fs.drop (i + 1)).flatMap Flt.cells).length = (fs.length - (i + 1)) * 9 := by rw [flat_length hf, List.length_drop]
  have h1D : ((fs.drop (i + 1)).flatMap Flt.cells).all oneCell = true := flat_one (fun _ => rfl) _
  have herase : (fs.eraseIdx i).flatMap Flt.cells = (fs.take i).flatMap Flt.cells ++ (fs.drop (i + 1)).flatMap Flt.cells := by rw [List.eraseIdx_eq_take_drop_succ, List.flatMap_append]
  have hlen' : (fs.eraseIdx i).length = i + (fs.length - (i + 1)) := by rw [List.length_eraseIdx, if_pos hi]; omega
  rw [hcut] at H hlen
  generalize (fs.take i).flatMap Flt.cells = A at *
  generalize (fs.drop (i + 1)).flatMap Flt.cells = D at *
  have hlx : (x.cells ++ D).length = D.length + 9 := by rw [List.length_append, hf]; omega
  refine CallK.of_vc EW_ok [0, 1, 2, 6, 7, 16] Try.func57 rfl (Nat.le_of_ble_eq_true rfl) ?_
  conv => whnf
  repeat (first | (refine cnd_intro (by first | (simp; done) | (simp; omega) | omega | (simp only [Bool.and_eq_true, decide_eq_true_eq]; omega)) ?_; conv => whnf) | (refine Hp.ld H 0 rfl rfl ?_; conv => whnf) | (refine Hp.ld H 1 rfl rfl ?_; conv => whnf) | (refine Hp.ld H 2 rfl rfl ?_; conv => whnf) | (refine Hp.ld H 3 rfl rfl ?_; conv => whnf) | (refine Hp.ld H 4 rfl rfl ?_; conv => whnf) | (refine Hp.ld H 5 rfl rfl ?_; conv => whnf) | (refine Hp.st H 0 rfl rfl rfl rfl rfl ?_; intro h H; conv => whnf) | (refine Hp.st H 1 rfl rfl rfl rfl rfl ?_; intro h H; conv => whnf) | (refine Hp.st H 2 rfl rfl rfl rfl rfl ?_; intro h H; conv => whnf) | (refine Hp.st H 3 rfl rfl rfl rfl rfl ?_; intro h H; conv => whnf) | (refine Hp.st H 4 rfl rfl rfl rfl rfl ?_; intro h H; conv => whnf) | (refine Hp.st H 5 rfl rfl rfl rfl rfl ?_; intro h H; conv => whnf) | (intro b h N; replace H := Hp.new H N; clear N; conv => whnf) | (refine Drawn.mk (by kernel_rfl) ?_; conv => whnf) | (refine FillK.row rfl ?_; conv => whnf) | (refine FillK.lit rfl ?_; conv => whnf) | (refine WrapK.i64 (by omega) (by omega) ?_; conv => whnf) | (refine WrapK.u64 (by omega) (by omega) ?_; conv => whnf) | (refine WrapK.u32 (by omega) (by omega) ?_; conv => whnf) | (refine WrapK.u8 (by omega) (by omega) ?_; conv => whnf) | (refine iteT (by omega) ?_; conv => whnf) | (refine iteF (by omega) ?_; conv => whnf) | (refine iteET (by omega) ?_; conv => whnf) | (refine iteEF (by omega) ?_; conv => whnf) | (refine iteNT (by omega) ?_; conv => whnf) | (refine iteNF (by omega) ?_; conv => whnf))
  have hR : Row h (cutA (some ⟨b, 0, none⟩) (i + 1) cap 9) D := by
    refine row_cut (H.get 0 rfl) (a := A ++ x.cells) (ys := D) (r := r) (by simp) (by rw [List.length_append, hf]; omega) fun e => ?_
    apply List.eq_nil_of_length_eq_zero
    rw [hlD]
    omega
  refine Hp.appendIn' EW_ok H 0 (n := i) (cap := cap) (m := fs.length - (i + 1)) (B := cutA (some ⟨b, 0, none⟩) (i + 1) cap 9) (c := cap - (i + 1)) (a := A) (q := (x.cells ++ D).take D.length) (r := (x.cells ++ D).drop D.length ++ r) (z := fltT) rfl ?_ ?_ ?_ rfl rfl rfl rfl (fun k h => by cases h) hR hlD.symm (fun e => ?_) (by omega) hlA.symm ?_ h1D ?_
  · rw [cutA_some]
    congr 1
    simp
  · rfl
  · conv => lhs; rw [← List.take_append_drop D.length (x.cells ++ D)]
    simp only [List.append_assoc]
  · rw [cutA_some] at e
    cases e
  · rw [List.length_take, hlx]; omega
  clear H
  intro h2 H
  conv => whnf
  repeat (first | (refine cnd_intro (by first | (simp; done) | (simp; omega) | omega | (simp only [Bool.and_eq_true, decide_eq_true_eq]; omega)) ?_; conv => whnf) | (refine Hp.ld H 0 rfl rfl ?_; conv => whnf) | (refine Hp.ld H 1 rfl rfl ?_; conv => whnf) | (refine Hp.ld H 2 rfl rfl ?_; conv => whnf) | (refine Hp.ld H 3 rfl rfl ?_; conv => whnf) | (refine Hp.ld H 4 rfl rfl ?_; conv => whnf) | (refine Hp.ld H 5 rfl rfl ?_; conv => whnf) | (refine Hp.st H 0 rfl rfl rfl rfl rfl ?_; intro h H; conv => whnf) | (refine Hp.st H 1 rfl rfl rfl rfl rfl ?_; intro h H; conv => whnf) | (refine Hp.st H 2 rfl rfl rfl rfl rfl ?_; intro h H; conv => whnf) | (refine Hp.st H 3 rfl rfl rfl rfl rfl ?_; intro h H; conv => whnf) | (refine Hp.st H 4 rfl rfl rfl rfl rfl ?_; intro h H; conv => whnf) | (refine Hp.st H 5 rfl rfl rfl rfl rfl ?_; intro h H; conv => whnf) | (intro b h N; replace H := Hp.new H N; clear N; conv => whnf) | (refine Drawn.mk (by kernel_rfl) ?_; conv => whnf) | (refine FillK.row rfl ?_; conv => whnf) | (refine FillK.lit rfl ?_; conv => whnf) | (refine WrapK.i64 (by omega) (by omega) ?_; conv => whnf) | (refine WrapK.u64 (by omega) (by omega) ?_; conv => whnf) | (refine WrapK.u32 (by omega) (by omega) ?_; conv => whnf) | (refine WrapK.u8 (by omega) (by omega) ?_; conv => whnf) | (refine iteT (by omega) ?_; conv => whnf) | (refine iteF (by omega) ?_; conv => whnf) | (refine iteET (by omega) ?_; conv => whnf) | (refine iteEF (by omega) ?_; conv => whnf) | (refine iteNT (by omega) ?_; conv => whnf) | (refine iteNF (by omega) ?_; conv => whnf))
  refine Hp.clearIn' EW_ok H 0 (o := (i + (fs.length - (i + 1))) * 9) (n := 1) (c := cap - (i + (fs.length - (i + 1)))) (z := fltT) (a := A ++ D) (q := (x.cells ++ D).drop D.length) (r := r) rfl ?_ (List.append_assoc _ _ _).symm rfl rfl rfl rfl rfl (.inr ?_) ?_ ?_
  · rw [cutA_some, if_neg (by omega)]
    congr 1
    · simp
      omega
    · omega
  · rw [List.length_append, hlA, hlD, Nat.add_mul]
  · rw [List.length_drop, hlx]
    show _ = 1 * 9
    omega
  clear H
  intro h3 ys hys H
  conv => whnf
  repeat (first | (refine cnd_intro (by first | (simp; done) | (simp; omega) | omega | (simp only [Bool.and_eq_true, decide_eq_true_eq]; omega)) ?_; conv => whnf) | (refine Hp.ld H 0 rfl rfl ?_; conv => whnf) | (refine Hp.ld H 1 rfl rfl ?_; conv => whnf) | (refine Hp.ld H 2 rfl rfl ?_; conv => whnf) | (refine Hp.ld H 3 rfl rfl ?_; conv => whnf) | (refine Hp.ld H 4 rfl rfl ?_; conv => whnf) | (refine Hp.ld H 5 rfl rfl ?_; conv => whnf) | (refine Hp.st H 0 rfl rfl rfl rfl rfl ?_; intro h H; conv => whnf) | (refine Hp.st H 1 rfl rfl rfl rfl rfl ?_; intro h H; conv => whnf) | (refine Hp.st H 2 rfl rfl rfl rfl rfl ?_; intro h H; conv => whnf) | (refine Hp.st H 3 rfl rfl rfl rfl rfl ?_; intro h H; conv => whnf) | (refine Hp.st H 4 rfl rfl rfl rfl rfl ?_; intro h H; conv => whnf) | (refine Hp.st H 5 rfl rfl rfl rfl rfl ?_; intro h H; conv => whnf) | (intro b h N; replace H := Hp.new H N; clear N; conv => whnf) | (refine Drawn.mk (by kernel_rfl) ?_; conv => whnf) | (refine FillK.row rfl ?_; conv => whnf) | (refine FillK.lit rfl ?_; conv => whnf) | (refine WrapK.i64 (by omega) (by omega) ?_; conv => whnf) | (refine WrapK.u64 (by omega) (by omega) ?_; conv => whnf) | (refine WrapK.u32 (by omega) (by omega) ?_; conv => whnf) | (refine WrapK.u8 (by omega) (by omega) ?_; conv => whnf) | (refine iteT (by omega) ?_; conv => whnf) | (refine iteF (by omega) ?_; conv => whnf) | (refine iteET (by omega) ?_; conv => whnf) | (refine iteEF (by omega) ?_; conv => whnf) | (refine iteNT (by omega) ?_; conv => whnf) | (refine iteNF (by omega) ?_; conv => whnf))
  rw [tup_one, hlen', herase]
  have H := H.slice 0 (b := b) (e := 54) (size := 9) (n := i + (fs.length - (i + 1))) (c := cap) (xs := A ++ D) rfl ?_ ?_ ?_
  · exact H
  · rw [List.length_append, hlA, hlD, Nat.add_mul]
  · rw [List.append_assoc (A ++ D), List.take_left]
  · rw [List.length_drop, hlx] at hys
    have hx9 := hf x
    simp only [List.length_append, hx9] at hlen ⊢
    omega

end Go.Proofs.Ytpcjdcpfbpdcfaa
