import Derived.Test.YtcjilkemfmhkgaaFdb1
namespace Go.Proofs.Ytcjilkemfmhkgaa
open Go.Vc
set_option maxRecDepth 10000
set_option maxHeartbeats 4000000

/-! ### fdb: entries go -/

theorem fdelete_call {h0 h : Heap} {rs : List Res} {s : Value} {fs : List FEnt} (H : Hp h0 h (Res.own s 85 9 fs.length (fs.flatMap FEnt.cells) :: rs)) (i : Nat) (hi : i < fs.length) (hl : fs.length ≤ 1000000) :
    CallK Try.prog 38 #[s, .int .i64 (i : Nat), .int .i64 ((i : Int) + 1)] h fun v h' => Hp h0 h' (Res.own v 85 9 (fs.eraseIdx i).length ((fs.eraseIdx i).flatMap FEnt.cells) :: rs) := by
  obtain ⟨b, cap, r, rfl, hcap, hlen, H⟩ := H.opened 0 rfl (by omega) (by decide)
  obtain ⟨x, hx⟩ := list_at hi
  have hf : ∀ y : FEnt, y.cells.length = 9 := fun _ => rfl
  have hcut := flat_cut (f := FEnt.cells) hx
  have hlA : ((fs.take i).flatMap FEnt.cells).length = i * 9 := by rw [flat_length hf, List.length_take, Nat.min_eq_left (by omega)]
  have hlD : ((fs.drop (i + 1)).flatMap FEnt.cells).length = (fs.length - (i + 1)) * 9 := by rw [flat_length hf, List.length_drop]
  have h1D : ((fs.drop (i + 1)).flatMap FEnt.cells).all oneCell = true := flat_one (fun _ => rfl) _
  have herase : (fs.eraseIdx i).flatMap FEnt.cells = (fs.take i).flatMap FEnt.cells ++ (fs.drop (i + 1)).flatMap FEnt.cells := by rw [List.eraseIdx_eq_take_drop_succ, List.flatMap_append]
  have hlen' : (fs.eraseIdx i).length = i + (fs.length - (i + 1)) := by rw [List.length_eraseIdx, if_pos hi]; omega
  rw [hcut] at H hlen
  generalize (fs.take i).flatMap FEnt.cells = A at *
  generalize (fs.drop (i + 1)).flatMap FEnt.cells = D at *
  have hlx : (x.cells ++ D).length = D.length + 9 := by rw [List.length_append, hf]; omega
  refine CallK.of_vc EW_ok [0, 1, 2, 6, 7, 16] Try.func38 rfl (Nat.le_of_ble_eq_true rfl) ?_
  conv => whnf
  repeat ((first | refine cnd_intro (by first | (simp; done) | (simp; omega) | omega | (simp only [Bool.and_eq_true, decide_eq_true_eq]; omega)) ?_ | refine Hp.ld H 0 rfl rfl ?_ | refine Hp.ld H 1 rfl rfl ?_ | refine Hp.ld H 2 rfl rfl ?_ | refine Hp.ld H 3 rfl rfl ?_ | refine Hp.ld H 4 rfl rfl ?_ | refine Hp.ld H 5 rfl rfl ?_ | (refine Hp.st H 0 rfl rfl rfl rfl rfl ?_; intro h H) | (refine Hp.st H 1 rfl rfl rfl rfl rfl ?_; intro h H) | (refine Hp.st H 2 rfl rfl rfl rfl rfl ?_; intro h H) | (refine Hp.st H 3 rfl rfl rfl rfl rfl ?_; intro h H) | (refine Hp.st H 4 rfl rfl rfl rfl rfl ?_; intro h H) | (refine Hp.st H 5 rfl rfl rfl rfl rfl ?_; intro h H) | (intro b h N; replace H := Hp.new H N; clear N) | refine Drawn.mk (by kernel_rfl) ?_ | refine FillK.row rfl ?_ | refine FillK.lit rfl ?_ | refine WrapK.i64 (by omega) (by omega) ?_ | refine WrapK.u64 (by omega) (by omega) ?_ | refine WrapK.u32 (by omega) (by omega) ?_ | refine WrapK.u8 (by omega) (by omega) ?_ | refine iteT (by omega) ?_ | refine iteF (by omega) ?_ | refine iteET (by omega) ?_ | refine iteEF (by omega) ?_ | refine iteNT (by omega) ?_ | refine iteNF (by omega) ?_); conv => whnf)
  have hR : Row h (cutA (some ⟨b, 0, none⟩) (i + 1) cap 9) D := by
    refine row_cut (H.get 0 rfl) (a := A ++ x.cells) (ys := D) (r := r) (by simp) (by rw [List.length_append, hf]; omega) fun e => ?_
    apply List.eq_nil_of_length_eq_zero
    rw [hlD]
    omega
  refine Hp.appendIn' EW_ok H 0 (n := i) (cap := cap) (m := fs.length - (i + 1)) (B := cutA (some ⟨b, 0, none⟩) (i + 1) cap 9) (c := cap - (i + 1)) (a := A) (q := (x.cells ++ D).take D.length) (r := (x.cells ++ D).drop D.length ++ r) (z := fentT) rfl ?_ ?_ ?_ rfl rfl rfl rfl (fun k h => by cases h) hR hlD.symm (fun e => ?_) (by omega) hlA.symm ?_ h1D ?_
  · rw [cutA_some]
    congr 1
    simp
  · rfl
  · conv => lhs; rw [← List.take_append_drop D.length (x.cells ++ D)]
    simp only [List.append_assoc]
  · rw [cutA_some] at e
    cases e
  · rw [List.length_take, hlx]; omega
  clear H
  intro h2 H
  conv => whnf
  repeat ((first | refine cnd_intro (by first | (simp; done) | (simp; omega) | omega | (simp only [Bool.and_eq_true, decide_eq_true_eq]; omega)) ?_ | refine Hp.ld H 0 rfl rfl ?_ | refine Hp.ld H 1 rfl rfl ?_ | refine Hp.ld H 2 rfl rfl ?_ | refine Hp.ld H 3 rfl rfl ?_ | refine Hp.ld H 4 rfl rfl ?_ | refine Hp.ld H 5 rfl rfl ?_ | (refine Hp.st H 0 rfl rfl rfl rfl rfl ?_; intro h H) | (refine Hp.st H 1 rfl rfl rfl rfl rfl ?_; intro h H) | (refine Hp.st H 2 rfl rfl rfl rfl rfl ?_; intro h H) | (refine Hp.st H 3 rfl rfl rfl rfl rfl ?_; intro h H) | (refine Hp.st H 4 rfl rfl rfl rfl rfl ?_; intro h H) | (refine Hp.st H 5 rfl rfl rfl rfl rfl ?_; intro h H) | (intro b h N; replace H := Hp.new H N; clear N) | refine Drawn.mk (by kernel_rfl) ?_ | refine FillK.row rfl ?_ | refine FillK.lit rfl ?_ | refine WrapK.i64 (by omega) (by omega) ?_ | refine WrapK.u64 (by omega) (by omega) ?_ | refine WrapK.u32 (by omega) (by omega) ?_ | refine WrapK.u8 (by omega) (by omega) ?_ | refine iteT (by omega) ?_ | refine iteF (by omega) ?_ | refine iteET (by omega) ?_ | refine iteEF (by omega) ?_ | refine iteNT (by omega) ?_ | refine iteNF (by omega) ?_); conv => whnf)
  refine Hp.clearIn' EW_ok H 0 (o := (i + (fs.length - (i + 1))) * 9) (n := 1) (c := cap - (i + (fs.length - (i + 1)))) (z := fentT) (a := A ++ D) (q := (x.cells ++ D).drop D.length) (r := r) rfl ?_ (List.append_assoc _ _ _).symm rfl rfl rfl rfl rfl (.inr ?_) ?_ ?_
  · rw [cutA_some, if_neg (by omega)]
    congr 1
    · simp
      omega
    · omega
  · rw [List.length_append, hlA, hlD, Nat.add_mul]
  · rw [List.length_drop, hlx]
    show _ = 1 * 9
    omega
  clear H
  intro h3 ys hys H
  conv => whnf
  repeat ((first | refine cnd_intro (by first | (simp; done) | (simp; omega) | omega | (simp only [Bool.and_eq_true, decide_eq_true_eq]; omega)) ?_ | refine Hp.ld H 0 rfl rfl ?_ | refine Hp.ld H 1 rfl rfl ?_ | refine Hp.ld H 2 rfl rfl ?_ | refine Hp.ld H 3 rfl rfl ?_ | refine Hp.ld H 4 rfl rfl ?_ | refine Hp.ld H 5 rfl rfl ?_ | (refine Hp.st H 0 rfl rfl rfl rfl rfl ?_; intro h H) | (refine Hp.st H 1 rfl rfl rfl rfl rfl ?_; intro h H) | (refine Hp.st H 2 rfl rfl rfl rfl rfl ?_; intro h H) | (refine Hp.st H 3 rfl rfl rfl rfl rfl ?_; intro h H) | (refine Hp.st H 4 rfl rfl rfl rfl rfl ?_; intro h H) | (refine Hp.st H 5 rfl rfl rfl rfl rfl ?_; intro h H) | (intro b h N; replace H := Hp.new H N; clear N) | refine Drawn.mk (by kernel_rfl) ?_ | refine FillK.row rfl ?_ | refine FillK.lit rfl ?_ | refine WrapK.i64 (by omega) (by omega) ?_ | refine WrapK.u64 (by omega) (by omega) ?_ | refine WrapK.u32 (by omega) (by omega) ?_ | refine WrapK.u8 (by omega) (by omega) ?_ | refine iteT (by omega) ?_ | refine iteF (by omega) ?_ | refine iteET (by omega) ?_ | refine iteEF (by omega) ?_ | refine iteNT (by omega) ?_ | refine iteNF (by omega) ?_); conv => whnf)
  rw [tup_one, hlen', herase]
  have H := H.slice 0 (b := b) (e := 85) (size := 9) (n := i + (fs.length - (i + 1))) (c := cap) (xs := A ++ D) rfl ?_ ?_ ?_
  · exact H
  · rw [List.length_append, hlA, hlD, Nat.add_mul]
  · rw [List.append_assoc (A ++ D), List.take_left]
  · rw [List.length_drop, hlx] at hys
    have hx9 := hf x
    simp only [List.length_append, hx9] at hlen ⊢
    omega

end Go.Proofs.Ytcjilkemfmhkgaa
