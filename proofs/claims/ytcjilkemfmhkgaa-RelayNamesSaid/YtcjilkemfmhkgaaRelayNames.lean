import Derived.Test.YtcjilkemfmhkgaaRelay6
namespace Go.Proofs.Ytcjilkemfmhkgaa
open Go.Vc
set_option maxRecDepth 10000
set_option maxHeartbeats 4000000

theorem law_RelayNames (v0 : Value) (h0 : Heap) (a0 : Arg EE h0 3 v0) :
    CallK Try.prog 3 #[v0] h0 fun v h' => v = .bool true ∧ Keep (fun _ => False) h0 h' := by
  obtain ⟨n, rfl, hn1, hn2⟩ := argi a0
  refine CallK.of_vc EW_ok [0, 2, 4, 10] Try.func3 rfl (Nat.le_of_ble_eq_true rfl) ?_
  have H := Hp.start h0
  conv => whnf
  refine CallK.mono (ways_call _) ?_
  rintro _ h1 ⟨k1, rfl⟩
  replace H := H.and k1
  clear k1
  by_cases c1 : n < 0
  · have e : nameB n = ⟨#[]⟩ := by unfold nameB; rw [if_pos c1]
    conv => whnf
    repeat (first | (refine iteT (by omega) ?_; conv => whnf) | (refine iteF (by omega) ?_; conv => whnf) | (refine iteET (by omega) ?_; conv => whnf) | (refine iteEF (by omega) ?_; conv => whnf) | (refine iteNT (by omega) ?_; conv => whnf) | (refine iteNF (by omega) ?_; conv => whnf) | (refine WrapK.i64 (by omega) (by omega) ?_; conv => whnf) | (refine Hp.ld H 0 rfl rfl ?_; conv => whnf))
    refine CallK.mono (name_call _ n) ?_
    rw [e]
    rintro _ h2 ⟨k2, rfl⟩
    replace H := H.and k2
    conv => whnf
    refine StrK.same ?_
    conv => whnf
    exact ⟨rfl, H.keep⟩
  by_cases c2 : n > 7
  · have e : nameB n = ⟨#[]⟩ := by
      unfold nameB
      rw [if_neg c1, List.getElem?_eq_none (by show 8 ≤ _; omega)]
      rfl
    conv => whnf
    repeat (first | (refine iteT (by omega) ?_; conv => whnf) | (refine iteF (by omega) ?_; conv => whnf) | (refine iteET (by omega) ?_; conv => whnf) | (refine iteEF (by omega) ?_; conv => whnf) | (refine iteNT (by omega) ?_; conv => whnf) | (refine iteNF (by omega) ?_; conv => whnf) | (refine WrapK.i64 (by omega) (by omega) ?_; conv => whnf) | (refine Hp.ld H 0 rfl rfl ?_; conv => whnf))
    refine CallK.mono (name_call _ n) ?_
    rw [e]
    rintro _ h2 ⟨k2, rfl⟩
    replace H := H.and k2
    conv => whnf
    refine StrK.same ?_
    conv => whnf
    exact ⟨rfl, H.keep⟩
  have hX : n = 0 ∨ n = 1 ∨ n = 2 ∨ n = 3 ∨ n = 4 ∨ n = 5 ∨ n = 6 ∨ n = 7 := by omega
  rcases hX with rfl | rfl | rfl | rfl | rfl | rfl | rfl | rfl
  all_goals
    conv => whnf
    repeat (first | (refine iteT (by omega) ?_; conv => whnf) | (refine iteF (by omega) ?_; conv => whnf) | (refine iteET (by omega) ?_; conv => whnf) | (refine iteEF (by omega) ?_; conv => whnf) | (refine iteNT (by omega) ?_; conv => whnf) | (refine iteNF (by omega) ?_; conv => whnf) | (refine WrapK.i64 (by omega) (by omega) ?_; conv => whnf) | (refine Hp.ld H 0 rfl rfl ?_; conv => whnf))
    refine Drawn.mk (by kernel_rfl) ?_
    conv => whnf
    refine CallK.mono (name_call _ _) ?_
    rintro _ h2 ⟨k2, rfl⟩
    replace H := H.and k2
    conv => whnf
    refine FillK.lit rfl ?_
    conv => whnf
    refine ⟨⟨_, rfl, ?_⟩⟩
    conv => whnf
    refine StrK.same ?_
    conv => whnf
    exact ⟨rfl, H.keep⟩

end Go.Proofs.Ytcjilkemfmhkgaa
