import Derived.Test.YtloghahkelogbaaPJ1
import Derived.Test.YtloghahkelogbaaArgs
namespace Go.Proofs.Ytloghahkelogbaa
open Go.Vc
set_option maxRecDepth 10000
set_option maxHeartbeats 8000000

/-! ### the law PoliceOthers -/

def oF (i : Nat) : Flt := ⟨0, ⟨2, UInt8.ofNat i, 0, 0, 0, 0⟩, 0, (i : Int)⟩
def othF (i : Nat) : List Flt := (List.range i).map oF
def oR : Rul := ⟨1, -1, -1⟩

theorem pfindF_cons (F : Hdr) (vid : Int) (x : Flt) (r : List Flt) : findF F vid (x :: r) = if x.tells F vid = true then x.strm else findF F vid r := by
  unfold findF
  rw [List.find?_cons]
  cases x.tells F vid <;> rfl

theorem oth_add0 : addF (oF 0) (othF 0) = (0, othF 1) := by kernel_rfl
theorem oth_add1 : addF (oF 1) (othF 1) = (0, othF 2) := by
  unfold addF
  rw [if_neg (by decide +kernel), if_neg (by simp [Flt.same, othF, oF, List.range_succ]), if_neg (by decide +kernel)]
  rfl
theorem oth_add2 : addF (oF 2) (othF 2) = (0, othF 3) := by
  unfold addF
  rw [if_neg (by decide +kernel), if_neg (by simp [Flt.same, othF, oF, List.range_succ]), if_neg (by decide +kernel)]
  rfl

def owant (F : Hdr) : Int := if F.dst = ⟨2, F.dst.a1, 0, 0, 0, 0⟩ ∧ F.dst.a1.toNat < 3 then (F.dst.a1.toNat : Int) else -1

theorem oF_tells (F : Hdr) (vid : Int) (i : Nat) : (oF i).tells F vid = decide (F.dst = ⟨2, UInt8.ofNat i, 0, 0, 0, 0⟩) := by
  unfold Flt.tells oF
  simp

theorem oth_find (F : Hdr) (vid : Int) : findF F vid (othF 3) = owant F := by
  have e : othF 3 = [oF 0, oF 1, oF 2] := rfl
  rw [e, pfindF_cons, pfindF_cons, pfindF_cons, oF_tells, oF_tells, oF_tells]
  simp only [decide_eq_true_eq]
  have h0 : findF F vid [] = -1 := rfl
  rw [h0]
  obtain ⟨⟨a0, a1, a2, a3, a4, a5⟩, _, _, _, _, _, _, _⟩ := F
  simp only [Mac6.mk.injEq, owant, oF, true_and]
  by_cases c : a0 = 2 ∧ a2 = 0 ∧ a3 = 0 ∧ a4 = 0 ∧ a5 = 0
  · obtain ⟨rfl, rfl, rfl, rfl, rfl⟩ := c
    simp only [true_and, and_true]
    by_cases c0 : a1 = UInt8.ofNat 0
    · subst c0; rfl
    rw [if_neg c0]
    by_cases c1 : a1 = UInt8.ofNat 1
    · subst c1; rfl
    rw [if_neg c1]
    by_cases c2 : a1 = UInt8.ofNat 2
    · subst c2; rfl
    rw [if_neg c2, if_neg]
    intro h
    have h3 : a1.toNat = 0 ∨ a1.toNat = 1 ∨ a1.toNat = 2 := by omega
    rcases h3 with h3 | h3 | h3
    · exact c0 (UInt8.toNat_inj.1 h3)
    · exact c1 (UInt8.toNat_inj.1 h3)
    · exact c2 (UInt8.toNat_inj.1 h3)
  · have g : ∀ x : UInt8, ¬ (a0 = 2 ∧ a1 = x ∧ a2 = 0 ∧ a3 = 0 ∧ a4 = 0 ∧ a5 = 0) := fun x h => c ⟨h.1, h.2.2⟩
    rw [if_neg (g _), if_neg (g _), if_neg (g _), if_neg]
    intro h
    exact c ⟨h.1.1, h.1.2⟩

theorem owant_lt (F : Hdr) : owant F < 3 := by
  unfold owant
  split <;> omega

theorem o_set {e : Nat} {R' : RM} (h : SetR oR 9 [] [] [] e R') : e = 0 ∧ R' = [(9, oR)] := by
  have hw : ¬ Rul.wide oR 9 := by decide
  have hl : ¬ Rul.lacks oR [] [] := by
    rintro (⟨c, _⟩ | ⟨c, _⟩)
    · exact absurd c (by decide)
    · exact absurd c (by decide)
  rcases h with ⟨c, _⟩ | ⟨_, c, _⟩ | ⟨_, _, _, c, _⟩ | ⟨_, _, _, rfl, rfl⟩
  · exact absurd c hw
  · exact absurd c hl
  · exact absurd c (by decide)
  · exact ⟨rfl, rfl⟩

theorem o_lk (F : Hdr) (vid : Int) : lk ([(9, oR)] : RM) (findF F vid (othF 3)) = none := by
  have h := owant_lt F
  rw [oth_find, lk_none]
  intro x hx
  rw [List.mem_singleton.1 hx]
  show (9 : Int) ≠ owant F
  omega

theorem vd_self (d : Vd) : eqB EW 20 69 d.cells d.cells = some true := Go.Vc.eqB_same (by kernel_rfl)

theorem law_PoliceOthers (v0 v1 v2 : Value) (h0 : Heap) (a0 : Arg EE h0 67 v0) (a1 : Arg EE h0 3 v1) (a2 : Arg EE h0 3 v2) :
    CallK Try.prog 5 #[v0, v1, v2] h0 fun v h' => v = .bool true ∧ Keep (fun _ => False) h0 h' := by
  obtain ⟨F, rfl, hF⟩ := arg_hdr a0
  obtain ⟨vid, rfl, _, _⟩ := argi a1
  obtain ⟨bytes, rfl, _, _⟩ := argi a2
  refine CallK.of_vc EW_ok [0, 1, 2, 3, 6, 7, 8, 9, 10, 12, 14, 15, 47] Try.func5 rfl (Nat.le_of_ble_eq_true rfl) ?_
  have H := Hp.start h0
  conv => whnf
  intro g3 h1 N
  replace H := H.new N
  clear N
  conv => whnf
  repeat (first | (refine cnd_intro (by first | (simp; done) | (simp; omega) | omega | (simp only [Bool.and_eq_true, decide_eq_true_eq]; omega)) ?_; conv => whnf) | (refine Hp.ld H 0 rfl rfl ?_; conv => whnf) | (refine Hp.ld H 1 rfl rfl ?_; conv => whnf) | (refine Hp.ld H 2 rfl rfl ?_; conv => whnf) | (refine Hp.ld H 3 rfl rfl ?_; conv => whnf) | (refine Hp.ld H 4 rfl rfl ?_; conv => whnf) | (refine Hp.ld H 5 rfl rfl ?_; conv => whnf) | (refine Hp.st H 0 rfl rfl rfl rfl rfl ?_; intro h H; conv => whnf) | (refine Hp.st H 1 rfl rfl rfl rfl rfl ?_; intro h H; conv => whnf) | (refine Hp.st H 2 rfl rfl rfl rfl rfl ?_; intro h H; conv => whnf) | (refine Hp.st H 3 rfl rfl rfl rfl rfl ?_; intro h H; conv => whnf) | (refine Hp.st H 4 rfl rfl rfl rfl rfl ?_; intro h H; conv => whnf) | (refine Hp.st H 5 rfl rfl rfl rfl rfl ?_; intro h H; conv => whnf) | (intro b h N; replace H := Hp.new H N; clear N; conv => whnf) | (refine Drawn.mk (by kernel_rfl) ?_; conv => whnf) | (refine FillK.row rfl ?_; conv => whnf) | (refine FillK.lit rfl ?_; conv => whnf) | (refine WrapK.i64 (by omega) (by omega) ?_; conv => whnf) | (refine WrapK.u64 (by omega) (by omega) ?_; conv => whnf) | (refine WrapK.u32 (by omega) (by omega) ?_; conv => whnf) | (refine WrapK.u8 (by omega) (by omega) ?_; conv => whnf) | (refine iteT (by omega) ?_; conv => whnf) | (refine iteF (by omega) ?_; conv => whnf) | (refine iteET (by omega) ?_; conv => whnf) | (refine iteEF (by omega) ?_; conv => whnf) | (refine iteNT (by omega) ?_; conv => whnf) | (refine iteNF (by omega) ?_; conv => whnf))
  refine CallK.mono (judges_call _) ?_
  rintro _ h2 ⟨rfl, k1⟩
  replace H := H.and k1
  clear k1
  conv => whnf
  repeat (first | (refine cnd_intro (by first | (simp; done) | (simp; omega) | omega | (simp only [Bool.and_eq_true, decide_eq_true_eq]; omega)) ?_; conv => whnf) | (refine Hp.ld H 0 rfl rfl ?_; conv => whnf) | (refine Hp.ld H 1 rfl rfl ?_; conv => whnf) | (refine Hp.ld H 2 rfl rfl ?_; conv => whnf) | (refine Hp.ld H 3 rfl rfl ?_; conv => whnf) | (refine Hp.ld H 4 rfl rfl ?_; conv => whnf) | (refine Hp.ld H 5 rfl rfl ?_; conv => whnf) | (refine Hp.st H 0 rfl rfl rfl rfl rfl ?_; intro h H; conv => whnf) | (refine Hp.st H 1 rfl rfl rfl rfl rfl ?_; intro h H; conv => whnf) | (refine Hp.st H 2 rfl rfl rfl rfl rfl ?_; intro h H; conv => whnf) | (refine Hp.st H 3 rfl rfl rfl rfl rfl ?_; intro h H; conv => whnf) | (refine Hp.st H 4 rfl rfl rfl rfl rfl ?_; intro h H; conv => whnf) | (refine Hp.st H 5 rfl rfl rfl rfl rfl ?_; intro h H; conv => whnf) | (intro b h N; replace H := Hp.new H N; clear N; conv => whnf) | (refine Drawn.mk (by kernel_rfl) ?_; conv => whnf) | (refine FillK.row rfl ?_; conv => whnf) | (refine FillK.lit rfl ?_; conv => whnf) | (refine WrapK.i64 (by omega) (by omega) ?_; conv => whnf) | (refine WrapK.u64 (by omega) (by omega) ?_; conv => whnf) | (refine WrapK.u32 (by omega) (by omega) ?_; conv => whnf) | (refine WrapK.u8 (by omega) (by omega) ?_; conv => whnf) | (refine iteT (by omega) ?_; conv => whnf) | (refine iteF (by omega) ?_; conv => whnf) | (refine iteET (by omega) ?_; conv => whnf) | (refine iteEF (by omega) ?_; conv => whnf) | (refine iteNT (by omega) ?_; conv => whnf) | (refine iteNF (by omega) ?_; conv => whnf))
  refine CallK.mono (pnew_call _) ?_
  rintro _ h3 ⟨g, bR, bV, bM, rfl, P⟩
  have HH : Hp h0 h3 (Res.pol g (.slice none 0 0) (othF 0) bR bV bM 0 0 0 0 :: Res.mp pI Rul.enc bR [] :: Res.mp pI Vlv.enc bV [] :: Res.mp pI ptrV bM [] :: Res.ob g3 (.cells F.cells.toArray 67 (0, 0)) :: []) := H.join P
  clear H P
  have H := HH
  clear HH
  conv => whnf
  repeat (first | (refine cnd_intro (by first | (simp; done) | (simp; omega) | omega | (simp only [Bool.and_eq_true, decide_eq_true_eq]; omega)) ?_; conv => whnf) | (refine Hp.ld H 0 rfl rfl ?_; conv => whnf) | (refine Hp.ld H 1 rfl rfl ?_; conv => whnf) | (refine Hp.ld H 2 rfl rfl ?_; conv => whnf) | (refine Hp.ld H 3 rfl rfl ?_; conv => whnf) | (refine Hp.ld H 4 rfl rfl ?_; conv => whnf) | (refine Hp.ld H 5 rfl rfl ?_; conv => whnf) | (refine Hp.st H 0 rfl rfl rfl rfl rfl ?_; intro h H; conv => whnf) | (refine Hp.st H 1 rfl rfl rfl rfl rfl ?_; intro h H; conv => whnf) | (refine Hp.st H 2 rfl rfl rfl rfl rfl ?_; intro h H; conv => whnf) | (refine Hp.st H 3 rfl rfl rfl rfl rfl ?_; intro h H; conv => whnf) | (refine Hp.st H 4 rfl rfl rfl rfl rfl ?_; intro h H; conv => whnf) | (refine Hp.st H 5 rfl rfl rfl rfl rfl ?_; intro h H; conv => whnf) | (intro b h N; replace H := Hp.new H N; clear N; conv => whnf) | (refine Drawn.mk (by kernel_rfl) ?_; conv => whnf) | (refine FillK.row rfl ?_; conv => whnf) | (refine FillK.lit rfl ?_; conv => whnf) | (refine WrapK.i64 (by omega) (by omega) ?_; conv => whnf) | (refine WrapK.u64 (by omega) (by omega) ?_; conv => whnf) | (refine WrapK.u32 (by omega) (by omega) ?_; conv => whnf) | (refine WrapK.u8 (by omega) (by omega) ?_; conv => whnf) | (refine iteT (by omega) ?_; conv => whnf) | (refine iteF (by omega) ?_; conv => whnf) | (refine iteET (by omega) ?_; conv => whnf) | (refine iteEF (by omega) ?_; conv => whnf) | (refine iteNT (by omega) ?_; conv => whnf) | (refine iteNF (by omega) ?_; conv => whnf))
  refine ⟨Nat × Value, [0, 1, 2, 3, 6, 7, 9, 10, 12, 47], fun q => [(14, .int .i64 (q.1 : Nat))], fun q h' => q.1 ≤ 3 ∧ Hp h0 h' (Res.pol g q.2 (othF q.1) bR bV bM 0 0 0 0 :: Res.mp pI Rul.enc bR [] :: Res.mp pI Vlv.enc bV [] :: Res.mp pI ptrV bM [] :: Res.ob g3 (.cells F.cells.toArray 67 (0, 0)) :: []), fun q => 3 - q.1, ?_⟩
  conv => whnf
  refine ⟨⟨(0, .slice none 0 0), ⟨rfl, trivial⟩, by show 0 ≤ 3; omega, H⟩, ?_⟩
  clear H
  rintro ⟨i, s⟩ h4 ⟨hi, H⟩
  dsimp only at hi H ⊢
  have hX : i = 3 ∨ i = 0 ∨ i = 1 ∨ i = 2 := by omega
  rcases hX with rfl | hX
  rotate_left
  · rcases hX with rfl | rfl | rfl

    · conv => whnf
      repeat (first | (refine cnd_intro (by first | (simp; done) | (simp; omega) | omega | (simp only [Bool.and_eq_true, decide_eq_true_eq]; omega)) ?_; conv => whnf) | (refine Hp.ld H 0 rfl rfl ?_; conv => whnf) | (refine Hp.ld H 1 rfl rfl ?_; conv => whnf) | (refine Hp.ld H 2 rfl rfl ?_; conv => whnf) | (refine Hp.ld H 3 rfl rfl ?_; conv => whnf) | (refine Hp.ld H 4 rfl rfl ?_; conv => whnf) | (refine Hp.ld H 5 rfl rfl ?_; conv => whnf) | (refine Hp.st H 0 rfl rfl rfl rfl rfl ?_; intro h H; conv => whnf) | (refine Hp.st H 1 rfl rfl rfl rfl rfl ?_; intro h H; conv => whnf) | (refine Hp.st H 2 rfl rfl rfl rfl rfl ?_; intro h H; conv => whnf) | (refine Hp.st H 3 rfl rfl rfl rfl rfl ?_; intro h H; conv => whnf) | (refine Hp.st H 4 rfl rfl rfl rfl rfl ?_; intro h H; conv => whnf) | (refine Hp.st H 5 rfl rfl rfl rfl rfl ?_; intro h H; conv => whnf) | (intro b h N; replace H := Hp.new H N; clear N; conv => whnf) | (refine Drawn.mk (by kernel_rfl) ?_; conv => whnf) | (refine FillK.row rfl ?_; conv => whnf) | (refine FillK.lit rfl ?_; conv => whnf) | (refine WrapK.i64 (by omega) (by omega) ?_; conv => whnf) | (refine WrapK.u64 (by omega) (by omega) ?_; conv => whnf) | (refine WrapK.u32 (by omega) (by omega) ?_; conv => whnf) | (refine WrapK.u8 (by omega) (by omega) ?_; conv => whnf) | (refine iteT (by omega) ?_; conv => whnf) | (refine iteF (by omega) ?_; conv => whnf) | (refine iteET (by omega) ?_; conv => whnf) | (refine iteEF (by omega) ?_; conv => whnf) | (refine iteNT (by omega) ?_; conv => whnf) | (refine iteNF (by omega) ?_; conv => whnf))
      refine CallK.mono (padd_call H 0 g s (othF 0) rfl (oF 0) (by decide)) ?_
      rintro _ h5 ⟨ev, s1, P⟩
      rw [oth_add0] at ev P
      subst ev
      conv => whnf
      repeat (first | (refine cnd_intro (by first | (simp; done) | (simp; omega) | omega | (simp only [Bool.and_eq_true, decide_eq_true_eq]; omega)) ?_; conv => whnf) | (refine Hp.ld H 0 rfl rfl ?_; conv => whnf) | (refine Hp.ld H 1 rfl rfl ?_; conv => whnf) | (refine Hp.ld H 2 rfl rfl ?_; conv => whnf) | (refine Hp.ld H 3 rfl rfl ?_; conv => whnf) | (refine Hp.ld H 4 rfl rfl ?_; conv => whnf) | (refine Hp.ld H 5 rfl rfl ?_; conv => whnf) | (refine Hp.st H 0 rfl rfl rfl rfl rfl ?_; intro h H; conv => whnf) | (refine Hp.st H 1 rfl rfl rfl rfl rfl ?_; intro h H; conv => whnf) | (refine Hp.st H 2 rfl rfl rfl rfl rfl ?_; intro h H; conv => whnf) | (refine Hp.st H 3 rfl rfl rfl rfl rfl ?_; intro h H; conv => whnf) | (refine Hp.st H 4 rfl rfl rfl rfl rfl ?_; intro h H; conv => whnf) | (refine Hp.st H 5 rfl rfl rfl rfl rfl ?_; intro h H; conv => whnf) | (intro b h N; replace H := Hp.new H N; clear N; conv => whnf) | (refine Drawn.mk (by kernel_rfl) ?_; conv => whnf) | (refine FillK.row rfl ?_; conv => whnf) | (refine FillK.lit rfl ?_; conv => whnf) | (refine WrapK.i64 (by omega) (by omega) ?_; conv => whnf) | (refine WrapK.u64 (by omega) (by omega) ?_; conv => whnf) | (refine WrapK.u32 (by omega) (by omega) ?_; conv => whnf) | (refine WrapK.u8 (by omega) (by omega) ?_; conv => whnf) | (refine iteT (by omega) ?_; conv => whnf) | (refine iteF (by omega) ?_; conv => whnf) | (refine iteET (by omega) ?_; conv => whnf) | (refine iteEF (by omega) ?_; conv => whnf) | (refine iteNT (by omega) ?_; conv => whnf) | (refine iteNF (by omega) ?_; conv => whnf))
      exact ⟨(0 + 1, s1), ⟨(by first | rfl | (show Value.int .i64 _ = _; congr 1; omega) | (show Value.int .i64 _ = _; rw [wrap64_id (by omega) (by omega)]; first | rfl | (congr 1; omega))), trivial⟩, (by repeat (first | exact trivial | refine ⟨rfl, ?_⟩)), ⟨by show 0 + 1 ≤ 3; omega, P⟩, by show 3 - (0 + 1) < 3 - 0; omega⟩

    · conv => whnf
      repeat (first | (refine cnd_intro (by first | (simp; done) | (simp; omega) | omega | (simp only [Bool.and_eq_true, decide_eq_true_eq]; omega)) ?_; conv => whnf) | (refine Hp.ld H 0 rfl rfl ?_; conv => whnf) | (refine Hp.ld H 1 rfl rfl ?_; conv => whnf) | (refine Hp.ld H 2 rfl rfl ?_; conv => whnf) | (refine Hp.ld H 3 rfl rfl ?_; conv => whnf) | (refine Hp.ld H 4 rfl rfl ?_; conv => whnf) | (refine Hp.ld H 5 rfl rfl ?_; conv => whnf) | (refine Hp.st H 0 rfl rfl rfl rfl rfl ?_; intro h H; conv => whnf) | (refine Hp.st H 1 rfl rfl rfl rfl rfl ?_; intro h H; conv => whnf) | (refine Hp.st H 2 rfl rfl rfl rfl rfl ?_; intro h H; conv => whnf) | (refine Hp.st H 3 rfl rfl rfl rfl rfl ?_; intro h H; conv => whnf) | (refine Hp.st H 4 rfl rfl rfl rfl rfl ?_; intro h H; conv => whnf) | (refine Hp.st H 5 rfl rfl rfl rfl rfl ?_; intro h H; conv => whnf) | (intro b h N; replace H := Hp.new H N; clear N; conv => whnf) | (refine Drawn.mk (by kernel_rfl) ?_; conv => whnf) | (refine FillK.row rfl ?_; conv => whnf) | (refine FillK.lit rfl ?_; conv => whnf) | (refine WrapK.i64 (by omega) (by omega) ?_; conv => whnf) | (refine WrapK.u64 (by omega) (by omega) ?_; conv => whnf) | (refine WrapK.u32 (by omega) (by omega) ?_; conv => whnf) | (refine WrapK.u8 (by omega) (by omega) ?_; conv => whnf) | (refine iteT (by omega) ?_; conv => whnf) | (refine iteF (by omega) ?_; conv => whnf) | (refine iteET (by omega) ?_; conv => whnf) | (refine iteEF (by omega) ?_; conv => whnf) | (refine iteNT (by omega) ?_; conv => whnf) | (refine iteNF (by omega) ?_; conv => whnf))
      refine CallK.mono (padd_call H 0 g s (othF 1) rfl (oF 1) (by decide)) ?_
      rintro _ h5 ⟨ev, s1, P⟩
      rw [oth_add1] at ev P
      subst ev
      conv => whnf
      repeat (first | (refine cnd_intro (by first | (simp; done) | (simp; omega) | omega | (simp only [Bool.and_eq_true, decide_eq_true_eq]; omega)) ?_; conv => whnf) | (refine Hp.ld H 0 rfl rfl ?_; conv => whnf) | (refine Hp.ld H 1 rfl rfl ?_; conv => whnf) | (refine Hp.ld H 2 rfl rfl ?_; conv => whnf) | (refine Hp.ld H 3 rfl rfl ?_; conv => whnf) | (refine Hp.ld H 4 rfl rfl ?_; conv => whnf) | (refine Hp.ld H 5 rfl rfl ?_; conv => whnf) | (refine Hp.st H 0 rfl rfl rfl rfl rfl ?_; intro h H; conv => whnf) | (refine Hp.st H 1 rfl rfl rfl rfl rfl ?_; intro h H; conv => whnf) | (refine Hp.st H 2 rfl rfl rfl rfl rfl ?_; intro h H; conv => whnf) | (refine Hp.st H 3 rfl rfl rfl rfl rfl ?_; intro h H; conv => whnf) | (refine Hp.st H 4 rfl rfl rfl rfl rfl ?_; intro h H; conv => whnf) | (refine Hp.st H 5 rfl rfl rfl rfl rfl ?_; intro h H; conv => whnf) | (intro b h N; replace H := Hp.new H N; clear N; conv => whnf) | (refine Drawn.mk (by kernel_rfl) ?_; conv => whnf) | (refine FillK.row rfl ?_; conv => whnf) | (refine FillK.lit rfl ?_; conv => whnf) | (refine WrapK.i64 (by omega) (by omega) ?_; conv => whnf) | (refine WrapK.u64 (by omega) (by omega) ?_; conv => whnf) | (refine WrapK.u32 (by omega) (by omega) ?_; conv => whnf) | (refine WrapK.u8 (by omega) (by omega) ?_; conv => whnf) | (refine iteT (by omega) ?_; conv => whnf) | (refine iteF (by omega) ?_; conv => whnf) | (refine iteET (by omega) ?_; conv => whnf) | (refine iteEF (by omega) ?_; conv => whnf) | (refine iteNT (by omega) ?_; conv => whnf) | (refine iteNF (by omega) ?_; conv => whnf))
      exact ⟨(1 + 1, s1), ⟨(by first | rfl | (show Value.int .i64 _ = _; congr 1; omega) | (show Value.int .i64 _ = _; rw [wrap64_id (by omega) (by omega)]; first | rfl | (congr 1; omega))), trivial⟩, (by repeat (first | exact trivial | refine ⟨rfl, ?_⟩)), ⟨by show 1 + 1 ≤ 3; omega, P⟩, by show 3 - (1 + 1) < 3 - 1; omega⟩

    · conv => whnf
      repeat (first | (refine cnd_intro (by first | (simp; done) | (simp; omega) | omega | (simp only [Bool.and_eq_true, decide_eq_true_eq]; omega)) ?_; conv => whnf) | (refine Hp.ld H 0 rfl rfl ?_; conv => whnf) | (refine Hp.ld H 1 rfl rfl ?_; conv => whnf) | (refine Hp.ld H 2 rfl rfl ?_; conv => whnf) | (refine Hp.ld H 3 rfl rfl ?_; conv => whnf) | (refine Hp.ld H 4 rfl rfl ?_; conv => whnf) | (refine Hp.ld H 5 rfl rfl ?_; conv => whnf) | (refine Hp.st H 0 rfl rfl rfl rfl rfl ?_; intro h H; conv => whnf) | (refine Hp.st H 1 rfl rfl rfl rfl rfl ?_; intro h H; conv => whnf) | (refine Hp.st H 2 rfl rfl rfl rfl rfl ?_; intro h H; conv => whnf) | (refine Hp.st H 3 rfl rfl rfl rfl rfl ?_; intro h H; conv => whnf) | (refine Hp.st H 4 rfl rfl rfl rfl rfl ?_; intro h H; conv => whnf) | (refine Hp.st H 5 rfl rfl rfl rfl rfl ?_; intro h H; conv => whnf) | (intro b h N; replace H := Hp.new H N; clear N; conv => whnf) | (refine Drawn.mk (by kernel_rfl) ?_; conv => whnf) | (refine FillK.row rfl ?_; conv => whnf) | (refine FillK.lit rfl ?_; conv => whnf) | (refine WrapK.i64 (by omega) (by omega) ?_; conv => whnf) | (refine WrapK.u64 (by omega) (by omega) ?_; conv => whnf) | (refine WrapK.u32 (by omega) (by omega) ?_; conv => whnf) | (refine WrapK.u8 (by omega) (by omega) ?_; conv => whnf) | (refine iteT (by omega) ?_; conv => whnf) | (refine iteF (by omega) ?_; conv => whnf) | (refine iteET (by omega) ?_; conv => whnf) | (refine iteEF (by omega) ?_; conv => whnf) | (refine iteNT (by omega) ?_; conv => whnf) | (refine iteNF (by omega) ?_; conv => whnf))
      refine CallK.mono (padd_call H 0 g s (othF 2) rfl (oF 2) (by decide)) ?_
      rintro _ h5 ⟨ev, s1, P⟩
      rw [oth_add2] at ev P
      subst ev
      conv => whnf
      repeat (first | (refine cnd_intro (by first | (simp; done) | (simp; omega) | omega | (simp only [Bool.and_eq_true, decide_eq_true_eq]; omega)) ?_; conv => whnf) | (refine Hp.ld H 0 rfl rfl ?_; conv => whnf) | (refine Hp.ld H 1 rfl rfl ?_; conv => whnf) | (refine Hp.ld H 2 rfl rfl ?_; conv => whnf) | (refine Hp.ld H 3 rfl rfl ?_; conv => whnf) | (refine Hp.ld H 4 rfl rfl ?_; conv => whnf) | (refine Hp.ld H 5 rfl rfl ?_; conv => whnf) | (refine Hp.st H 0 rfl rfl rfl rfl rfl ?_; intro h H; conv => whnf) | (refine Hp.st H 1 rfl rfl rfl rfl rfl ?_; intro h H; conv => whnf) | (refine Hp.st H 2 rfl rfl rfl rfl rfl ?_; intro h H; conv => whnf) | (refine Hp.st H 3 rfl rfl rfl rfl rfl ?_; intro h H; conv => whnf) | (refine Hp.st H 4 rfl rfl rfl rfl rfl ?_; intro h H; conv => whnf) | (refine Hp.st H 5 rfl rfl rfl rfl rfl ?_; intro h H; conv => whnf) | (intro b h N; replace H := Hp.new H N; clear N; conv => whnf) | (refine Drawn.mk (by kernel_rfl) ?_; conv => whnf) | (refine FillK.row rfl ?_; conv => whnf) | (refine FillK.lit rfl ?_; conv => whnf) | (refine WrapK.i64 (by omega) (by omega) ?_; conv => whnf) | (refine WrapK.u64 (by omega) (by omega) ?_; conv => whnf) | (refine WrapK.u32 (by omega) (by omega) ?_; conv => whnf) | (refine WrapK.u8 (by omega) (by omega) ?_; conv => whnf) | (refine iteT (by omega) ?_; conv => whnf) | (refine iteF (by omega) ?_; conv => whnf) | (refine iteET (by omega) ?_; conv => whnf) | (refine iteEF (by omega) ?_; conv => whnf) | (refine iteNT (by omega) ?_; conv => whnf) | (refine iteNF (by omega) ?_; conv => whnf))
      exact ⟨(2 + 1, s1), ⟨(by first | rfl | (show Value.int .i64 _ = _; congr 1; omega) | (show Value.int .i64 _ = _; rw [wrap64_id (by omega) (by omega)]; first | rfl | (congr 1; omega))), trivial⟩, (by repeat (first | exact trivial | refine ⟨rfl, ?_⟩)), ⟨by show 2 + 1 ≤ 3; omega, P⟩, by show 3 - (2 + 1) < 3 - 2; omega⟩

  clear hi
  conv => whnf
  repeat (first | (refine cnd_intro (by first | (simp; done) | (simp; omega) | omega | (simp only [Bool.and_eq_true, decide_eq_true_eq]; omega)) ?_; conv => whnf) | (refine Hp.ld H 0 rfl rfl ?_; conv => whnf) | (refine Hp.ld H 1 rfl rfl ?_; conv => whnf) | (refine Hp.ld H 2 rfl rfl ?_; conv => whnf) | (refine Hp.ld H 3 rfl rfl ?_; conv => whnf) | (refine Hp.ld H 4 rfl rfl ?_; conv => whnf) | (refine Hp.ld H 5 rfl rfl ?_; conv => whnf) | (refine Hp.st H 0 rfl rfl rfl rfl rfl ?_; intro h H; conv => whnf) | (refine Hp.st H 1 rfl rfl rfl rfl rfl ?_; intro h H; conv => whnf) | (refine Hp.st H 2 rfl rfl rfl rfl rfl ?_; intro h H; conv => whnf) | (refine Hp.st H 3 rfl rfl rfl rfl rfl ?_; intro h H; conv => whnf) | (refine Hp.st H 4 rfl rfl rfl rfl rfl ?_; intro h H; conv => whnf) | (refine Hp.st H 5 rfl rfl rfl rfl rfl ?_; intro h H; conv => whnf) | (intro b h N; replace H := Hp.new H N; clear N; conv => whnf) | (refine Drawn.mk (by kernel_rfl) ?_; conv => whnf) | (refine FillK.row rfl ?_; conv => whnf) | (refine FillK.lit rfl ?_; conv => whnf) | (refine WrapK.i64 (by omega) (by omega) ?_; conv => whnf) | (refine WrapK.u64 (by omega) (by omega) ?_; conv => whnf) | (refine WrapK.u32 (by omega) (by omega) ?_; conv => whnf) | (refine WrapK.u8 (by omega) (by omega) ?_; conv => whnf) | (refine iteT (by omega) ?_; conv => whnf) | (refine iteF (by omega) ?_; conv => whnf) | (refine iteET (by omega) ?_; conv => whnf) | (refine iteEF (by omega) ?_; conv => whnf) | (refine iteNT (by omega) ?_; conv => whnf) | (refine iteNF (by omega) ?_; conv => whnf))
  refine CallK.mono (setrule_call H 9 oR (fun x hx => by cases hx) (by decide)) ?_
  rintro _ h5 ⟨e, R1, hr, rfl, P⟩
  have hr2 := o_set hr
  obtain ⟨rfl, rfl⟩ := hr2
  clear hr
  have HH : Hp h0 h5 (Res.pol g s (othF 3) bR bV bM 0 0 0 0 :: Res.mp pI Rul.enc bR [(9, oR)] :: Res.mp pI Vlv.enc bV [] :: Res.mp pI ptrV bM [] :: Res.bag [] :: Res.mss [] :: Res.ob g3 (.cells F.cells.toArray 67 (0, 0)) :: []) := (Hp.no_bag (Hp.no_mss P)).sub ⟨[], by
    rw [List.append_nil]
    exact (List.perm_append_comm (l₁ := [_, _, _, _]) (l₂ := [_, _])).append_right [_]⟩
  repeat clear H
  clear P
  have H := HH
  clear HH
  conv => whnf
  repeat (first | (refine cnd_intro (by first | (simp; done) | (simp; omega) | omega | (simp only [Bool.and_eq_true, decide_eq_true_eq]; omega)) ?_; conv => whnf) | (refine Hp.ld H 0 rfl rfl ?_; conv => whnf) | (refine Hp.ld H 1 rfl rfl ?_; conv => whnf) | (refine Hp.ld H 2 rfl rfl ?_; conv => whnf) | (refine Hp.ld H 3 rfl rfl ?_; conv => whnf) | (refine Hp.ld H 4 rfl rfl ?_; conv => whnf) | (refine Hp.ld H 5 rfl rfl ?_; conv => whnf) | (refine Hp.st H 0 rfl rfl rfl rfl rfl ?_; intro h H; conv => whnf) | (refine Hp.st H 1 rfl rfl rfl rfl rfl ?_; intro h H; conv => whnf) | (refine Hp.st H 2 rfl rfl rfl rfl rfl ?_; intro h H; conv => whnf) | (refine Hp.st H 3 rfl rfl rfl rfl rfl ?_; intro h H; conv => whnf) | (refine Hp.st H 4 rfl rfl rfl rfl rfl ?_; intro h H; conv => whnf) | (refine Hp.st H 5 rfl rfl rfl rfl rfl ?_; intro h H; conv => whnf) | (intro b h N; replace H := Hp.new H N; clear N; conv => whnf) | (refine Drawn.mk (by kernel_rfl) ?_; conv => whnf) | (refine FillK.row rfl ?_; conv => whnf) | (refine FillK.lit rfl ?_; conv => whnf) | (refine WrapK.i64 (by omega) (by omega) ?_; conv => whnf) | (refine WrapK.u64 (by omega) (by omega) ?_; conv => whnf) | (refine WrapK.u32 (by omega) (by omega) ?_; conv => whnf) | (refine WrapK.u8 (by omega) (by omega) ?_; conv => whnf) | (refine iteT (by omega) ?_; conv => whnf) | (refine iteF (by omega) ?_; conv => whnf) | (refine iteET (by omega) ?_; conv => whnf) | (refine iteEF (by omega) ?_; conv => whnf) | (refine iteNT (by omega) ?_; conv => whnf) | (refine iteNF (by omega) ?_; conv => whnf))
  refine Hp.ld H 6 rfl rfl ?_
  conv => whnf
  repeat (first | (refine cnd_intro (by first | (simp; done) | (simp; omega) | omega | (simp only [Bool.and_eq_true, decide_eq_true_eq]; omega)) ?_; conv => whnf) | (refine Hp.ld H 0 rfl rfl ?_; conv => whnf) | (refine Hp.ld H 1 rfl rfl ?_; conv => whnf) | (refine Hp.ld H 2 rfl rfl ?_; conv => whnf) | (refine Hp.ld H 3 rfl rfl ?_; conv => whnf) | (refine Hp.ld H 4 rfl rfl ?_; conv => whnf) | (refine Hp.ld H 5 rfl rfl ?_; conv => whnf) | (refine Hp.st H 0 rfl rfl rfl rfl rfl ?_; intro h H; conv => whnf) | (refine Hp.st H 1 rfl rfl rfl rfl rfl ?_; intro h H; conv => whnf) | (refine Hp.st H 2 rfl rfl rfl rfl rfl ?_; intro h H; conv => whnf) | (refine Hp.st H 3 rfl rfl rfl rfl rfl ?_; intro h H; conv => whnf) | (refine Hp.st H 4 rfl rfl rfl rfl rfl ?_; intro h H; conv => whnf) | (refine Hp.st H 5 rfl rfl rfl rfl rfl ?_; intro h H; conv => whnf) | (intro b h N; replace H := Hp.new H N; clear N; conv => whnf) | (refine Drawn.mk (by kernel_rfl) ?_; conv => whnf) | (refine FillK.row rfl ?_; conv => whnf) | (refine FillK.lit rfl ?_; conv => whnf) | (refine WrapK.i64 (by omega) (by omega) ?_; conv => whnf) | (refine WrapK.u64 (by omega) (by omega) ?_; conv => whnf) | (refine WrapK.u32 (by omega) (by omega) ?_; conv => whnf) | (refine WrapK.u8 (by omega) (by omega) ?_; conv => whnf) | (refine iteT (by omega) ?_; conv => whnf) | (refine iteF (by omega) ?_; conv => whnf) | (refine iteET (by omega) ?_; conv => whnf) | (refine iteEF (by omega) ?_; conv => whnf) | (refine iteNT (by omega) ?_; conv => whnf) | (refine iteNF (by omega) ?_; conv => whnf))
  refine CallK.mono (judge_call H F vid bytes 5 77 (by decide) (fun r h => by rw [o_lk] at h; cases h) (by decide) (by decide) (by decide) (by decide) (by decide)) ?_
  rintro _ h6 ⟨e, d1, X1, hj, rfl, P⟩
  have hlk := o_lk F vid
  have hj2 : e = 0 ∧ d1 = ⟨findF F vid (othF 3), 0, 5, F.dei⟩ ∧ X1 = [] := by
    rcases hj with ⟨_, h⟩ | ⟨r, _, h, _⟩
    · exact h
    · rw [hlk] at h; cases h
  rw [oth_find] at hj2
  obtain ⟨rfl, rfl, rfl⟩ := hj2
  clear hj
  have hX : ∃ x, owant F = x := ⟨_, rfl⟩
  obtain ⟨x, hx⟩ := hX
  rw [hx]
  unfold owant at hx
  have HH : Hp h0 h6 (Res.ob g3 (.cells F.cells.toArray 67 (0, 0)) :: Res.pol g s (othF 3) bR bV bM 1 0 0 0 :: Res.mp pI Rul.enc bR [(9, oR)] :: Res.mp pI Vlv.enc bV [] :: Res.mp pI ptrV bM [] :: Res.bag [] :: Res.mss [] :: []) := P.sub ⟨[], by
    rw [List.append_nil]
    exact List.perm_append_comm (l₁ := [_]) (l₂ := [_, _, _, _, _, _])⟩
  repeat clear H
  clear P
  have H := HH
  clear HH
  conv => whnf
  repeat (first | (refine cnd_intro (by first | (simp; done) | (simp; omega) | omega | (simp only [Bool.and_eq_true, decide_eq_true_eq]; omega)) ?_; conv => whnf) | (refine Hp.ld H 0 rfl rfl ?_; conv => whnf) | (refine Hp.ld H 1 rfl rfl ?_; conv => whnf) | (refine Hp.ld H 2 rfl rfl ?_; conv => whnf) | (refine Hp.ld H 3 rfl rfl ?_; conv => whnf) | (refine Hp.ld H 4 rfl rfl ?_; conv => whnf) | (refine Hp.ld H 5 rfl rfl ?_; conv => whnf) | (refine Hp.st H 0 rfl rfl rfl rfl rfl ?_; intro h H; conv => whnf) | (refine Hp.st H 1 rfl rfl rfl rfl rfl ?_; intro h H; conv => whnf) | (refine Hp.st H 2 rfl rfl rfl rfl rfl ?_; intro h H; conv => whnf) | (refine Hp.st H 3 rfl rfl rfl rfl rfl ?_; intro h H; conv => whnf) | (refine Hp.st H 4 rfl rfl rfl rfl rfl ?_; intro h H; conv => whnf) | (refine Hp.st H 5 rfl rfl rfl rfl rfl ?_; intro h H; conv => whnf) | (intro b h N; replace H := Hp.new H N; clear N; conv => whnf) | (refine Drawn.mk (by kernel_rfl) ?_; conv => whnf) | (refine FillK.row rfl ?_; conv => whnf) | (refine FillK.lit rfl ?_; conv => whnf) | (refine WrapK.i64 (by omega) (by omega) ?_; conv => whnf) | (refine WrapK.u64 (by omega) (by omega) ?_; conv => whnf) | (refine WrapK.u32 (by omega) (by omega) ?_; conv => whnf) | (refine WrapK.u8 (by omega) (by omega) ?_; conv => whnf) | (refine iteT (by omega) ?_; conv => whnf) | (refine iteF (by omega) ?_; conv => whnf) | (refine iteET (by omega) ?_; conv => whnf) | (refine iteEF (by omega) ?_; conv => whnf) | (refine iteNT (by omega) ?_; conv => whnf) | (refine iteNF (by omega) ?_; conv => whnf))
  by_cases c1 : F.dst = ⟨2, F.dst.a1, 0, 0, 0, 0⟩
  · refine EqK.gen EW_ok (xs := F.dst.cells) (ys := (⟨2, F.dst.a1, 0, 0, 0, 0⟩ : Mac6).cells) rfl (by kernel_rfl) rfl rfl (mac_eqW _ _) ?_
    rw [decide_eq_true c1]
    by_cases c2 : F.dst.a1.toNat < 3
    · rw [if_pos ⟨c1, c2⟩] at hx
      subst hx
      conv => whnf
      repeat (first | (refine cnd_intro (by first | (simp; done) | (simp; omega) | omega | (simp only [Bool.and_eq_true, decide_eq_true_eq]; omega)) ?_; conv => whnf) | (refine Hp.ld H 0 rfl rfl ?_; conv => whnf) | (refine Hp.ld H 1 rfl rfl ?_; conv => whnf) | (refine Hp.ld H 2 rfl rfl ?_; conv => whnf) | (refine Hp.ld H 3 rfl rfl ?_; conv => whnf) | (refine Hp.ld H 4 rfl rfl ?_; conv => whnf) | (refine Hp.ld H 5 rfl rfl ?_; conv => whnf) | (refine Hp.st H 0 rfl rfl rfl rfl rfl ?_; intro h H; conv => whnf) | (refine Hp.st H 1 rfl rfl rfl rfl rfl ?_; intro h H; conv => whnf) | (refine Hp.st H 2 rfl rfl rfl rfl rfl ?_; intro h H; conv => whnf) | (refine Hp.st H 3 rfl rfl rfl rfl rfl ?_; intro h H; conv => whnf) | (refine Hp.st H 4 rfl rfl rfl rfl rfl ?_; intro h H; conv => whnf) | (refine Hp.st H 5 rfl rfl rfl rfl rfl ?_; intro h H; conv => whnf) | (intro b h N; replace H := Hp.new H N; clear N; conv => whnf) | (refine Drawn.mk (by kernel_rfl) ?_; conv => whnf) | (refine FillK.row rfl ?_; conv => whnf) | (refine FillK.lit rfl ?_; conv => whnf) | (refine WrapK.i64 (by omega) (by omega) ?_; conv => whnf) | (refine WrapK.u64 (by omega) (by omega) ?_; conv => whnf) | (refine WrapK.u32 (by omega) (by omega) ?_; conv => whnf) | (refine WrapK.u8 (by omega) (by omega) ?_; conv => whnf) | (refine iteT (by omega) ?_; conv => whnf) | (refine iteF (by omega) ?_; conv => whnf) | (refine iteET (by omega) ?_; conv => whnf) | (refine iteEF (by omega) ?_; conv => whnf) | (refine iteNT (by omega) ?_; conv => whnf) | (refine iteNF (by omega) ?_; conv => whnf))
      refine EqK.gen EW_ok rfl (by kernel_rfl) rfl rfl (vd_self ⟨(F.dst.a1.toNat : Int), 0, 5, F.dei⟩) ?_
      conv => whnf
      repeat (first | (refine cnd_intro (by first | (simp; done) | (simp; omega) | omega | (simp only [Bool.and_eq_true, decide_eq_true_eq]; omega)) ?_; conv => whnf) | (refine Hp.ld H 0 rfl rfl ?_; conv => whnf) | (refine Hp.ld H 1 rfl rfl ?_; conv => whnf) | (refine Hp.ld H 2 rfl rfl ?_; conv => whnf) | (refine Hp.ld H 3 rfl rfl ?_; conv => whnf) | (refine Hp.ld H 4 rfl rfl ?_; conv => whnf) | (refine Hp.ld H 5 rfl rfl ?_; conv => whnf) | (refine Hp.st H 0 rfl rfl rfl rfl rfl ?_; intro h H; conv => whnf) | (refine Hp.st H 1 rfl rfl rfl rfl rfl ?_; intro h H; conv => whnf) | (refine Hp.st H 2 rfl rfl rfl rfl rfl ?_; intro h H; conv => whnf) | (refine Hp.st H 3 rfl rfl rfl rfl rfl ?_; intro h H; conv => whnf) | (refine Hp.st H 4 rfl rfl rfl rfl rfl ?_; intro h H; conv => whnf) | (refine Hp.st H 5 rfl rfl rfl rfl rfl ?_; intro h H; conv => whnf) | (intro b h N; replace H := Hp.new H N; clear N; conv => whnf) | (refine Drawn.mk (by kernel_rfl) ?_; conv => whnf) | (refine FillK.row rfl ?_; conv => whnf) | (refine FillK.lit rfl ?_; conv => whnf) | (refine WrapK.i64 (by omega) (by omega) ?_; conv => whnf) | (refine WrapK.u64 (by omega) (by omega) ?_; conv => whnf) | (refine WrapK.u32 (by omega) (by omega) ?_; conv => whnf) | (refine WrapK.u8 (by omega) (by omega) ?_; conv => whnf) | (refine iteT (by omega) ?_; conv => whnf) | (refine iteF (by omega) ?_; conv => whnf) | (refine iteET (by omega) ?_; conv => whnf) | (refine iteEF (by omega) ?_; conv => whnf) | (refine iteNT (by omega) ?_; conv => whnf) | (refine iteNF (by omega) ?_; conv => whnf))
      refine CallK.mono (pcounts_call _ g s bR bV bM 1 0 0 0 (pol_ob (i := 2) H rfl)) ?_
      rintro _ h9 ⟨k9, rfl⟩
      replace H := H.and k9
      conv => whnf
      repeat (first | (refine cnd_intro (by first | (simp; done) | (simp; omega) | omega | (simp only [Bool.and_eq_true, decide_eq_true_eq]; omega)) ?_; conv => whnf) | (refine Hp.ld H 0 rfl rfl ?_; conv => whnf) | (refine Hp.ld H 1 rfl rfl ?_; conv => whnf) | (refine Hp.ld H 2 rfl rfl ?_; conv => whnf) | (refine Hp.ld H 3 rfl rfl ?_; conv => whnf) | (refine Hp.ld H 4 rfl rfl ?_; conv => whnf) | (refine Hp.ld H 5 rfl rfl ?_; conv => whnf) | (refine Hp.st H 0 rfl rfl rfl rfl rfl ?_; intro h H; conv => whnf) | (refine Hp.st H 1 rfl rfl rfl rfl rfl ?_; intro h H; conv => whnf) | (refine Hp.st H 2 rfl rfl rfl rfl rfl ?_; intro h H; conv => whnf) | (refine Hp.st H 3 rfl rfl rfl rfl rfl ?_; intro h H; conv => whnf) | (refine Hp.st H 4 rfl rfl rfl rfl rfl ?_; intro h H; conv => whnf) | (refine Hp.st H 5 rfl rfl rfl rfl rfl ?_; intro h H; conv => whnf) | (intro b h N; replace H := Hp.new H N; clear N; conv => whnf) | (refine Drawn.mk (by kernel_rfl) ?_; conv => whnf) | (refine FillK.row rfl ?_; conv => whnf) | (refine FillK.lit rfl ?_; conv => whnf) | (refine WrapK.i64 (by omega) (by omega) ?_; conv => whnf) | (refine WrapK.u64 (by omega) (by omega) ?_; conv => whnf) | (refine WrapK.u32 (by omega) (by omega) ?_; conv => whnf) | (refine WrapK.u8 (by omega) (by omega) ?_; conv => whnf) | (refine iteT (by omega) ?_; conv => whnf) | (refine iteF (by omega) ?_; conv => whnf) | (refine iteET (by omega) ?_; conv => whnf) | (refine iteEF (by omega) ?_; conv => whnf) | (refine iteNT (by omega) ?_; conv => whnf) | (refine iteNF (by omega) ?_; conv => whnf))
      refine ⟨.int .i64 1, rfl, ?_⟩
      conv => whnf
      repeat (first | (refine cnd_intro (by first | (simp; done) | (simp; omega) | omega | (simp only [Bool.and_eq_true, decide_eq_true_eq]; omega)) ?_; conv => whnf) | (refine Hp.ld H 0 rfl rfl ?_; conv => whnf) | (refine Hp.ld H 1 rfl rfl ?_; conv => whnf) | (refine Hp.ld H 2 rfl rfl ?_; conv => whnf) | (refine Hp.ld H 3 rfl rfl ?_; conv => whnf) | (refine Hp.ld H 4 rfl rfl ?_; conv => whnf) | (refine Hp.ld H 5 rfl rfl ?_; conv => whnf) | (refine Hp.st H 0 rfl rfl rfl rfl rfl ?_; intro h H; conv => whnf) | (refine Hp.st H 1 rfl rfl rfl rfl rfl ?_; intro h H; conv => whnf) | (refine Hp.st H 2 rfl rfl rfl rfl rfl ?_; intro h H; conv => whnf) | (refine Hp.st H 3 rfl rfl rfl rfl rfl ?_; intro h H; conv => whnf) | (refine Hp.st H 4 rfl rfl rfl rfl rfl ?_; intro h H; conv => whnf) | (refine Hp.st H 5 rfl rfl rfl rfl rfl ?_; intro h H; conv => whnf) | (intro b h N; replace H := Hp.new H N; clear N; conv => whnf) | (refine Drawn.mk (by kernel_rfl) ?_; conv => whnf) | (refine FillK.row rfl ?_; conv => whnf) | (refine FillK.lit rfl ?_; conv => whnf) | (refine WrapK.i64 (by omega) (by omega) ?_; conv => whnf) | (refine WrapK.u64 (by omega) (by omega) ?_; conv => whnf) | (refine WrapK.u32 (by omega) (by omega) ?_; conv => whnf) | (refine WrapK.u8 (by omega) (by omega) ?_; conv => whnf) | (refine iteT (by omega) ?_; conv => whnf) | (refine iteF (by omega) ?_; conv => whnf) | (refine iteET (by omega) ?_; conv => whnf) | (refine iteEF (by omega) ?_; conv => whnf) | (refine iteNT (by omega) ?_; conv => whnf) | (refine iteNF (by omega) ?_; conv => whnf))
      exact ⟨rfl, H.keep⟩
    · rw [if_neg (fun h => c2 h.2)] at hx
      subst hx
      conv => whnf
      repeat (first | (refine cnd_intro (by first | (simp; done) | (simp; omega) | omega | (simp only [Bool.and_eq_true, decide_eq_true_eq]; omega)) ?_; conv => whnf) | (refine Hp.ld H 0 rfl rfl ?_; conv => whnf) | (refine Hp.ld H 1 rfl rfl ?_; conv => whnf) | (refine Hp.ld H 2 rfl rfl ?_; conv => whnf) | (refine Hp.ld H 3 rfl rfl ?_; conv => whnf) | (refine Hp.ld H 4 rfl rfl ?_; conv => whnf) | (refine Hp.ld H 5 rfl rfl ?_; conv => whnf) | (refine Hp.st H 0 rfl rfl rfl rfl rfl ?_; intro h H; conv => whnf) | (refine Hp.st H 1 rfl rfl rfl rfl rfl ?_; intro h H; conv => whnf) | (refine Hp.st H 2 rfl rfl rfl rfl rfl ?_; intro h H; conv => whnf) | (refine Hp.st H 3 rfl rfl rfl rfl rfl ?_; intro h H; conv => whnf) | (refine Hp.st H 4 rfl rfl rfl rfl rfl ?_; intro h H; conv => whnf) | (refine Hp.st H 5 rfl rfl rfl rfl rfl ?_; intro h H; conv => whnf) | (intro b h N; replace H := Hp.new H N; clear N; conv => whnf) | (refine Drawn.mk (by kernel_rfl) ?_; conv => whnf) | (refine FillK.row rfl ?_; conv => whnf) | (refine FillK.lit rfl ?_; conv => whnf) | (refine WrapK.i64 (by omega) (by omega) ?_; conv => whnf) | (refine WrapK.u64 (by omega) (by omega) ?_; conv => whnf) | (refine WrapK.u32 (by omega) (by omega) ?_; conv => whnf) | (refine WrapK.u8 (by omega) (by omega) ?_; conv => whnf) | (refine iteT (by omega) ?_; conv => whnf) | (refine iteF (by omega) ?_; conv => whnf) | (refine iteET (by omega) ?_; conv => whnf) | (refine iteEF (by omega) ?_; conv => whnf) | (refine iteNT (by omega) ?_; conv => whnf) | (refine iteNF (by omega) ?_; conv => whnf))
      refine EqK.gen EW_ok rfl (by kernel_rfl) rfl rfl (vd_self ⟨-1, 0, 5, F.dei⟩) ?_
      conv => whnf
      repeat (first | (refine cnd_intro (by first | (simp; done) | (simp; omega) | omega | (simp only [Bool.and_eq_true, decide_eq_true_eq]; omega)) ?_; conv => whnf) | (refine Hp.ld H 0 rfl rfl ?_; conv => whnf) | (refine Hp.ld H 1 rfl rfl ?_; conv => whnf) | (refine Hp.ld H 2 rfl rfl ?_; conv => whnf) | (refine Hp.ld H 3 rfl rfl ?_; conv => whnf) | (refine Hp.ld H 4 rfl rfl ?_; conv => whnf) | (refine Hp.ld H 5 rfl rfl ?_; conv => whnf) | (refine Hp.st H 0 rfl rfl rfl rfl rfl ?_; intro h H; conv => whnf) | (refine Hp.st H 1 rfl rfl rfl rfl rfl ?_; intro h H; conv => whnf) | (refine Hp.st H 2 rfl rfl rfl rfl rfl ?_; intro h H; conv => whnf) | (refine Hp.st H 3 rfl rfl rfl rfl rfl ?_; intro h H; conv => whnf) | (refine Hp.st H 4 rfl rfl rfl rfl rfl ?_; intro h H; conv => whnf) | (refine Hp.st H 5 rfl rfl rfl rfl rfl ?_; intro h H; conv => whnf) | (intro b h N; replace H := Hp.new H N; clear N; conv => whnf) | (refine Drawn.mk (by kernel_rfl) ?_; conv => whnf) | (refine FillK.row rfl ?_; conv => whnf) | (refine FillK.lit rfl ?_; conv => whnf) | (refine WrapK.i64 (by omega) (by omega) ?_; conv => whnf) | (refine WrapK.u64 (by omega) (by omega) ?_; conv => whnf) | (refine WrapK.u32 (by omega) (by omega) ?_; conv => whnf) | (refine WrapK.u8 (by omega) (by omega) ?_; conv => whnf) | (refine iteT (by omega) ?_; conv => whnf) | (refine iteF (by omega) ?_; conv => whnf) | (refine iteET (by omega) ?_; conv => whnf) | (refine iteEF (by omega) ?_; conv => whnf) | (refine iteNT (by omega) ?_; conv => whnf) | (refine iteNF (by omega) ?_; conv => whnf))
      refine CallK.mono (pcounts_call _ g s bR bV bM 1 0 0 0 (pol_ob (i := 2) H rfl)) ?_
      rintro _ h9 ⟨k9, rfl⟩
      replace H := H.and k9
      conv => whnf
      repeat (first | (refine cnd_intro (by first | (simp; done) | (simp; omega) | omega | (simp only [Bool.and_eq_true, decide_eq_true_eq]; omega)) ?_; conv => whnf) | (refine Hp.ld H 0 rfl rfl ?_; conv => whnf) | (refine Hp.ld H 1 rfl rfl ?_; conv => whnf) | (refine Hp.ld H 2 rfl rfl ?_; conv => whnf) | (refine Hp.ld H 3 rfl rfl ?_; conv => whnf) | (refine Hp.ld H 4 rfl rfl ?_; conv => whnf) | (refine Hp.ld H 5 rfl rfl ?_; conv => whnf) | (refine Hp.st H 0 rfl rfl rfl rfl rfl ?_; intro h H; conv => whnf) | (refine Hp.st H 1 rfl rfl rfl rfl rfl ?_; intro h H; conv => whnf) | (refine Hp.st H 2 rfl rfl rfl rfl rfl ?_; intro h H; conv => whnf) | (refine Hp.st H 3 rfl rfl rfl rfl rfl ?_; intro h H; conv => whnf) | (refine Hp.st H 4 rfl rfl rfl rfl rfl ?_; intro h H; conv => whnf) | (refine Hp.st H 5 rfl rfl rfl rfl rfl ?_; intro h H; conv => whnf) | (intro b h N; replace H := Hp.new H N; clear N; conv => whnf) | (refine Drawn.mk (by kernel_rfl) ?_; conv => whnf) | (refine FillK.row rfl ?_; conv => whnf) | (refine FillK.lit rfl ?_; conv => whnf) | (refine WrapK.i64 (by omega) (by omega) ?_; conv => whnf) | (refine WrapK.u64 (by omega) (by omega) ?_; conv => whnf) | (refine WrapK.u32 (by omega) (by omega) ?_; conv => whnf) | (refine WrapK.u8 (by omega) (by omega) ?_; conv => whnf) | (refine iteT (by omega) ?_; conv => whnf) | (refine iteF (by omega) ?_; conv => whnf) | (refine iteET (by omega) ?_; conv => whnf) | (refine iteEF (by omega) ?_; conv => whnf) | (refine iteNT (by omega) ?_; conv => whnf) | (refine iteNF (by omega) ?_; conv => whnf))
      refine ⟨.int .i64 1, rfl, ?_⟩
      conv => whnf
      repeat (first | (refine cnd_intro (by first | (simp; done) | (simp; omega) | omega | (simp only [Bool.and_eq_true, decide_eq_true_eq]; omega)) ?_; conv => whnf) | (refine Hp.ld H 0 rfl rfl ?_; conv => whnf) | (refine Hp.ld H 1 rfl rfl ?_; conv => whnf) | (refine Hp.ld H 2 rfl rfl ?_; conv => whnf) | (refine Hp.ld H 3 rfl rfl ?_; conv => whnf) | (refine Hp.ld H 4 rfl rfl ?_; conv => whnf) | (refine Hp.ld H 5 rfl rfl ?_; conv => whnf) | (refine Hp.st H 0 rfl rfl rfl rfl rfl ?_; intro h H; conv => whnf) | (refine Hp.st H 1 rfl rfl rfl rfl rfl ?_; intro h H; conv => whnf) | (refine Hp.st H 2 rfl rfl rfl rfl rfl ?_; intro h H; conv => whnf) | (refine Hp.st H 3 rfl rfl rfl rfl rfl ?_; intro h H; conv => whnf) | (refine Hp.st H 4 rfl rfl rfl rfl rfl ?_; intro h H; conv => whnf) | (refine Hp.st H 5 rfl rfl rfl rfl rfl ?_; intro h H; conv => whnf) | (intro b h N; replace H := Hp.new H N; clear N; conv => whnf) | (refine Drawn.mk (by kernel_rfl) ?_; conv => whnf) | (refine FillK.row rfl ?_; conv => whnf) | (refine FillK.lit rfl ?_; conv => whnf) | (refine WrapK.i64 (by omega) (by omega) ?_; conv => whnf) | (refine WrapK.u64 (by omega) (by omega) ?_; conv => whnf) | (refine WrapK.u32 (by omega) (by omega) ?_; conv => whnf) | (refine WrapK.u8 (by omega) (by omega) ?_; conv => whnf) | (refine iteT (by omega) ?_; conv => whnf) | (refine iteF (by omega) ?_; conv => whnf) | (refine iteET (by omega) ?_; conv => whnf) | (refine iteEF (by omega) ?_; conv => whnf) | (refine iteNT (by omega) ?_; conv => whnf) | (refine iteNF (by omega) ?_; conv => whnf))
      exact ⟨rfl, H.keep⟩
  · refine EqK.gen EW_ok (xs := F.dst.cells) (ys := (⟨2, F.dst.a1, 0, 0, 0, 0⟩ : Mac6).cells) rfl (by kernel_rfl) rfl rfl (mac_eqW _ _) ?_
    rw [decide_eq_false c1]
    rw [if_neg (fun h => c1 h.1)] at hx
    subst hx
    conv => whnf
    repeat (first | (refine cnd_intro (by first | (simp; done) | (simp; omega) | omega | (simp only [Bool.and_eq_true, decide_eq_true_eq]; omega)) ?_; conv => whnf) | (refine Hp.ld H 0 rfl rfl ?_; conv => whnf) | (refine Hp.ld H 1 rfl rfl ?_; conv => whnf) | (refine Hp.ld H 2 rfl rfl ?_; conv => whnf) | (refine Hp.ld H 3 rfl rfl ?_; conv => whnf) | (refine Hp.ld H 4 rfl rfl ?_; conv => whnf) | (refine Hp.ld H 5 rfl rfl ?_; conv => whnf) | (refine Hp.st H 0 rfl rfl rfl rfl rfl ?_; intro h H; conv => whnf) | (refine Hp.st H 1 rfl rfl rfl rfl rfl ?_; intro h H; conv => whnf) | (refine Hp.st H 2 rfl rfl rfl rfl rfl ?_; intro h H; conv => whnf) | (refine Hp.st H 3 rfl rfl rfl rfl rfl ?_; intro h H; conv => whnf) | (refine Hp.st H 4 rfl rfl rfl rfl rfl ?_; intro h H; conv => whnf) | (refine Hp.st H 5 rfl rfl rfl rfl rfl ?_; intro h H; conv => whnf) | (intro b h N; replace H := Hp.new H N; clear N; conv => whnf) | (refine Drawn.mk (by kernel_rfl) ?_; conv => whnf) | (refine FillK.row rfl ?_; conv => whnf) | (refine FillK.lit rfl ?_; conv => whnf) | (refine WrapK.i64 (by omega) (by omega) ?_; conv => whnf) | (refine WrapK.u64 (by omega) (by omega) ?_; conv => whnf) | (refine WrapK.u32 (by omega) (by omega) ?_; conv => whnf) | (refine WrapK.u8 (by omega) (by omega) ?_; conv => whnf) | (refine iteT (by omega) ?_; conv => whnf) | (refine iteF (by omega) ?_; conv => whnf) | (refine iteET (by omega) ?_; conv => whnf) | (refine iteEF (by omega) ?_; conv => whnf) | (refine iteNT (by omega) ?_; conv => whnf) | (refine iteNF (by omega) ?_; conv => whnf))
    refine EqK.gen EW_ok rfl (by kernel_rfl) rfl rfl (vd_self ⟨-1, 0, 5, F.dei⟩) ?_
    conv => whnf
    repeat (first | (refine cnd_intro (by first | (simp; done) | (simp; omega) | omega | (simp only [Bool.and_eq_true, decide_eq_true_eq]; omega)) ?_; conv => whnf) | (refine Hp.ld H 0 rfl rfl ?_; conv => whnf) | (refine Hp.ld H 1 rfl rfl ?_; conv => whnf) | (refine Hp.ld H 2 rfl rfl ?_; conv => whnf) | (refine Hp.ld H 3 rfl rfl ?_; conv => whnf) | (refine Hp.ld H 4 rfl rfl ?_; conv => whnf) | (refine Hp.ld H 5 rfl rfl ?_; conv => whnf) | (refine Hp.st H 0 rfl rfl rfl rfl rfl ?_; intro h H; conv => whnf) | (refine Hp.st H 1 rfl rfl rfl rfl rfl ?_; intro h H; conv => whnf) | (refine Hp.st H 2 rfl rfl rfl rfl rfl ?_; intro h H; conv => whnf) | (refine Hp.st H 3 rfl rfl rfl rfl rfl ?_; intro h H; conv => whnf) | (refine Hp.st H 4 rfl rfl rfl rfl rfl ?_; intro h H; conv => whnf) | (refine Hp.st H 5 rfl rfl rfl rfl rfl ?_; intro h H; conv => whnf) | (intro b h N; replace H := Hp.new H N; clear N; conv => whnf) | (refine Drawn.mk (by kernel_rfl) ?_; conv => whnf) | (refine FillK.row rfl ?_; conv => whnf) | (refine FillK.lit rfl ?_; conv => whnf) | (refine WrapK.i64 (by omega) (by omega) ?_; conv => whnf) | (refine WrapK.u64 (by omega) (by omega) ?_; conv => whnf) | (refine WrapK.u32 (by omega) (by omega) ?_; conv => whnf) | (refine WrapK.u8 (by omega) (by omega) ?_; conv => whnf) | (refine iteT (by omega) ?_; conv => whnf) | (refine iteF (by omega) ?_; conv => whnf) | (refine iteET (by omega) ?_; conv => whnf) | (refine iteEF (by omega) ?_; conv => whnf) | (refine iteNT (by omega) ?_; conv => whnf) | (refine iteNF (by omega) ?_; conv => whnf))
    refine CallK.mono (pcounts_call _ g s bR bV bM 1 0 0 0 (pol_ob (i := 2) H rfl)) ?_
    rintro _ h9 ⟨k9, rfl⟩
    replace H := H.and k9
    conv => whnf
    repeat (first | (refine cnd_intro (by first | (simp; done) | (simp; omega) | omega | (simp only [Bool.and_eq_true, decide_eq_true_eq]; omega)) ?_; conv => whnf) | (refine Hp.ld H 0 rfl rfl ?_; conv => whnf) | (refine Hp.ld H 1 rfl rfl ?_; conv => whnf) | (refine Hp.ld H 2 rfl rfl ?_; conv => whnf) | (refine Hp.ld H 3 rfl rfl ?_; conv => whnf) | (refine Hp.ld H 4 rfl rfl ?_; conv => whnf) | (refine Hp.ld H 5 rfl rfl ?_; conv => whnf) | (refine Hp.st H 0 rfl rfl rfl rfl rfl ?_; intro h H; conv => whnf) | (refine Hp.st H 1 rfl rfl rfl rfl rfl ?_; intro h H; conv => whnf) | (refine Hp.st H 2 rfl rfl rfl rfl rfl ?_; intro h H; conv => whnf) | (refine Hp.st H 3 rfl rfl rfl rfl rfl ?_; intro h H; conv => whnf) | (refine Hp.st H 4 rfl rfl rfl rfl rfl ?_; intro h H; conv => whnf) | (refine Hp.st H 5 rfl rfl rfl rfl rfl ?_; intro h H; conv => whnf) | (intro b h N; replace H := Hp.new H N; clear N; conv => whnf) | (refine Drawn.mk (by kernel_rfl) ?_; conv => whnf) | (refine FillK.row rfl ?_; conv => whnf) | (refine FillK.lit rfl ?_; conv => whnf) | (refine WrapK.i64 (by omega) (by omega) ?_; conv => whnf) | (refine WrapK.u64 (by omega) (by omega) ?_; conv => whnf) | (refine WrapK.u32 (by omega) (by omega) ?_; conv => whnf) | (refine WrapK.u8 (by omega) (by omega) ?_; conv => whnf) | (refine iteT (by omega) ?_; conv => whnf) | (refine iteF (by omega) ?_; conv => whnf) | (refine iteET (by omega) ?_; conv => whnf) | (refine iteEF (by omega) ?_; conv => whnf) | (refine iteNT (by omega) ?_; conv => whnf) | (refine iteNF (by omega) ?_; conv => whnf))
    refine ⟨.int .i64 1, rfl, ?_⟩
    conv => whnf
    repeat (first | (refine cnd_intro (by first | (simp; done) | (simp; omega) | omega | (simp only [Bool.and_eq_true, decide_eq_true_eq]; omega)) ?_; conv => whnf) | (refine Hp.ld H 0 rfl rfl ?_; conv => whnf) | (refine Hp.ld H 1 rfl rfl ?_; conv => whnf) | (refine Hp.ld H 2 rfl rfl ?_; conv => whnf) | (refine Hp.ld H 3 rfl rfl ?_; conv => whnf) | (refine Hp.ld H 4 rfl rfl ?_; conv => whnf) | (refine Hp.ld H 5 rfl rfl ?_; conv => whnf) | (refine Hp.st H 0 rfl rfl rfl rfl rfl ?_; intro h H; conv => whnf) | (refine Hp.st H 1 rfl rfl rfl rfl rfl ?_; intro h H; conv => whnf) | (refine Hp.st H 2 rfl rfl rfl rfl rfl ?_; intro h H; conv => whnf) | (refine Hp.st H 3 rfl rfl rfl rfl rfl ?_; intro h H; conv => whnf) | (refine Hp.st H 4 rfl rfl rfl rfl rfl ?_; intro h H; conv => whnf) | (refine Hp.st H 5 rfl rfl rfl rfl rfl ?_; intro h H; conv => whnf) | (intro b h N; replace H := Hp.new H N; clear N; conv => whnf) | (refine Drawn.mk (by kernel_rfl) ?_; conv => whnf) | (refine FillK.row rfl ?_; conv => whnf) | (refine FillK.lit rfl ?_; conv => whnf) | (refine WrapK.i64 (by omega) (by omega) ?_; conv => whnf) | (refine WrapK.u64 (by omega) (by omega) ?_; conv => whnf) | (refine WrapK.u32 (by omega) (by omega) ?_; conv => whnf) | (refine WrapK.u8 (by omega) (by omega) ?_; conv => whnf) | (refine iteT (by omega) ?_; conv => whnf) | (refine iteF (by omega) ?_; conv => whnf) | (refine iteET (by omega) ?_; conv => whnf) | (refine iteEF (by omega) ?_; conv => whnf) | (refine iteNT (by omega) ?_; conv => whnf) | (refine iteNF (by omega) ?_; conv => whnf))
    exact ⟨rfl, H.keep⟩

end Go.Proofs.Ytloghahkelogbaa
