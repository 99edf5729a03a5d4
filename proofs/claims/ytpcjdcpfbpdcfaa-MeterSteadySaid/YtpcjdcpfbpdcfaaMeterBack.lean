import Derived.Test.YtpcjdcpfbpdcfaaMeter
namespace Go.Proofs.Ytpcjdcpfbpdcfaa
open Go.Vc
set_option maxRecDepth 10000

theorem MS.pass_same {s : MS} {now : Int} (h : now ≤ s.last) : s.pass now = s := by unfold MS.pass; rw [if_pos h]
theorem MS.pass_last {s : MS} {now : Int} : (s.pass now).last = if now ≤ s.last then s.last else now := by unfold MS.pass; split <;> simp [*]
theorem MS.mark_last {s : MS} {b now : Int} : ((s.mark b now).1).last = if now ≤ s.last then s.last else now := by
  rw [← MS.pass_last]
  unfold MS.mark
  simp only
  split
  · rfl
  · split <;> rfl

/-- A new meter. -/
def MS.fresh (c0 c1 c2 c3 : Int) : MS := ⟨c0, c1, c2, c3, c1 * 8000000000, c3 * 8000000000, 0, 0, 0, 0⟩
theorem MS.fresh_ok {c0 c1 c2 c3 : Int} (h : CfgOk c0 c1 c2 c3) : (MS.fresh c0 c1 c2 c3).Ok := by
  obtain ⟨a, b, c, d⟩ := h
  refine ⟨a, b, c, d, ⟨?_, Int.le_refl _⟩, ⟨?_, Int.le_refl _⟩, Int.le_refl 0, ⟨Int.le_refl 0, by show (0:Int) ≤ _; decide⟩, ⟨Int.le_refl 0, by show (0:Int) ≤ _; decide⟩, ⟨Int.le_refl 0, by show (0:Int) ≤ _; decide⟩⟩
  · show 0 ≤ c1 * 8000000000; omega
  · show 0 ≤ c3 * 8000000000; omega

theorem arg_i64 {h : Heap} {v : Value} {t : Nat} (a : Arg EE h t v) {y : Ty} (hy : EE.ty t = some y) (hd : y.desc = .int .i64) (hag : y.agg = false) :
    ∃ n : Int, v = .int .i64 n ∧ -9223372036854775808 ≤ n ∧ n ≤ 9223372036854775807 := by
  have h1 := a.one y hy hag
  have hf := a.fm 1
  unfold Fm at hf
  rw [hy] at hf
  simp only [hd] at hf
  rw [h1] at hf
  obtain ⟨n, hn, hw⟩ := hf
  simp only [List.cons.injEq, and_true] at hn
  refine ⟨n, hn, ?_⟩
  simp only [Lit.wf, IntKind.min, IntKind.max, IntKind.signed, IntKind.bits, Bool.and_eq_true, decide_eq_true_eq, if_true] at hw
  omega

theorem law_MeterBack (v0 v1 v2 : Value) (h : Heap) (a0 : Arg EE h 23 v0) (a1 : Arg EE h 2 v1) (a2 : Arg EE h 2 v2) :
    CallK Try.prog 6 #[v0, v1, v2] h fun v h' => v = .bool true ∧ Keep (fun _ => False) h h' := by
  obtain ⟨c0, c1, c2, c3, rfl⟩ := arg_cfg a0
  obtain ⟨now, rfl, n1, n2⟩ := arg_i64 a1 rfl rfl rfl
  obtain ⟨back, rfl, b1, b2⟩ := arg_i64 a2 rfl rfl rfl
  refine CallK.of_vc EE_ok [0, 1, 2, 3, 6, 7, 9, 10, 11, 12, 13, 14, 16, 36] Try.func6 rfl (Nat.le_of_ble_eq_true rfl) ?_
  conv => whnf
  intro b h1 hn
  conv => whnf
  refine CallK.mono (marks_call h1) ?_
  rintro _ h2 ⟨rfl, hk2⟩
  have hb := hk2.get hn.get (fun x => x)
  have k2 : Keep (fun _ => False) h h2 := ((Keep.refl _ h).new hn).and hk2
  conv => whnf
  refine LdK.lit hb rfl ?_
  conv => whnf
  refine CallK.mono (check_call c0 c1 c2 c3 h2) ?_
  rintro _ h3 ⟨rfl, hk3⟩
  have k3 := k2.and hk3
  have hb3 := hk3.get hb (fun x => x)
  by_cases hc : CfgOk c0 c1 c2 c3
  case neg =>
    rw [if_neg hc]
    conv => whnf
    exact ⟨rfl, k3⟩
  rw [if_pos hc]
  conv => whnf
  refine iteD (fun t1 => ⟨rfl, k3⟩) (fun t1 => ?_)
  conv => whnf
  refine iteD (fun t2 => ⟨rfl, k3⟩) (fun t2 => ?_)
  conv => whnf
  refine iteD (fun t3 => ⟨rfl, k3⟩) (fun t3 => ?_)
  conv => whnf
  refine iteD (fun t4 => ⟨rfl, k3⟩) (fun t4 => ?_)
  conv => whnf
  refine LdK.lit hb3 rfl ?_
  conv => whnf
  refine CallK.mono (new_ok_call c0 c1 c2 c3 h3 hc) ?_
  rintro _ h4 ⟨g, T, rfl, hk4, hge, hg4⟩
  have k4 := k3.and hk4
  have hkg : ∀ k, k < h.size → ¬ k = g := by intro k hk; have := k3.size; omega
  have o0 := MS.fresh_ok hc
  have o1 := o0.mark 1000 now (by show (0:Int) ≤ _; decide) (by show (0:Int) ≤ _; decide) (by show (0:Int) ≤ _; decide)
  have hl : ((MS.fresh c0 c1 c2 c3).mark 1000 now).1.last = now := by
    rw [MS.mark_last]
    show (if now ≤ 0 then 0 else now) = now
    split <;> omega
  conv => whnf
  refine CallK.mono (mark_call (MS.fresh c0 c1 c2 c3) g T 1000 now h4 o0 (by omega) hg4) ?_
  rintro _ h5 ⟨rfl, hk5, hg5⟩
  have k5 := k4.after hk5 hkg
  generalize ((MS.fresh c0 c1 c2 c3).mark 1000 now).1 = s1 at o1 hl hg5
  conv => whnf
  refine CallK.mono (level_call s1 g T now h5 o1 (by omega) hg5) ?_
  rintro _ h6 ⟨rfl, hk6, hg6⟩
  have k6 := k5.after hk6 hkg
  rw [MS.pass_same (by omega)] at hg6 ⊢
  conv => whnf
  refine CallK.mono (level_call s1 g T _ h6 o1 (by rw [wrap64_id (by omega) (by omega)]; omega) hg6) ?_
  rintro _ h7 ⟨rfl, hk7, hg7⟩
  have k7 := k6.after hk7 hkg
  rw [MS.pass_same (by rw [wrap64_id (by omega) (by omega)]; omega)] at hg7 ⊢
  conv => whnf
  refine CallK.mono (level_call s1 g T now h7 o1 (by omega) hg7) ?_
  rintro _ h8 ⟨rfl, hk8, hg8⟩
  have k8 := k7.after hk8 hkg
  rw [MS.pass_same (by omega)]
  conv => whnf
  refine iteET rfl ?_
  conv => whnf
  refine iteET rfl ?_
  conv => whnf
  refine iteET rfl ?_
  conv => whnf
  exact ⟨by rw [tup_one]; simp, k8⟩

end Go.Proofs.Ytpcjdcpfbpdcfaa
