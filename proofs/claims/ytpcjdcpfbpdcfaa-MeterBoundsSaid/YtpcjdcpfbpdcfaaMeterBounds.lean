import Derived.Test.YtpcjdcpfbpdcfaaMeterSteady
namespace Go.Proofs.Ytpcjdcpfbpdcfaa
open Go.Vc
set_option maxRecDepth 10000

theorem fillF_le {t r b n : Int} (hr : 0 ≤ r) (hn : 0 ≤ n) (ht : t ≤ b * 8000000000) : fillF t r b n ≤ t + r * n := by
  have h0 : 0 ≤ r * n := Int.mul_nonneg hr hn
  unfold fillF
  split
  · omega
  · rename_i h1
    split
    · rename_i h2
      have h3 : (b * 8000000000 - t) / r + 1 ≤ n := by omega
      have h4 := Int.mul_le_mul_of_nonneg_left h3 hr
      have h5 := Int.lt_ediv_add_one_mul_self (b * 8000000000 - t) (b := r) (by omega)
      have h6 : ((b * 8000000000 - t) / r + 1) * r = r * ((b * 8000000000 - t) / r + 1) := Int.mul_comm _ _
      omega
    · omega

theorem MS.pass_fixed (s : MS) (now : Int) : (s.pass now).c0 = s.c0 ∧ (s.pass now).c1 = s.c1 ∧ (s.pass now).c2 = s.c2 ∧ (s.pass now).c3 = s.c3 ∧ (s.pass now).k0 = s.k0 ∧ (s.pass now).k1 = s.k1 ∧ (s.pass now).k2 = s.k2 := by
  unfold MS.pass; split <;> simp

theorem MS.mark_fixed (s : MS) (b now : Int) : (s.mark b now).1.c0 = s.c0 ∧ (s.mark b now).1.c1 = s.c1 ∧ (s.mark b now).1.c2 = s.c2 ∧ (s.mark b now).1.c3 = s.c3 := by
  obtain ⟨h1, h2, h3, h4, _⟩ := s.pass_fixed now
  unfold MS.mark
  simp only
  split
  · exact ⟨h1, h2, h3, h4⟩
  · split <;> exact ⟨h1, h2, h3, h4⟩

theorem MS.mark_k (s : MS) (b now : Int) : (s.mark b now).1.k0 ≤ s.k0 + 1 ∧ (s.mark b now).1.k1 ≤ s.k1 + 1 ∧ (s.mark b now).1.k2 ≤ s.k2 + 1 := by
  obtain ⟨_, _, _, _, h5, h6, h7⟩ := s.pass_fixed now
  unfold MS.mark
  simp only
  split
  · exact ⟨by show (s.pass now).k0 + 1 ≤ _; omega, by show (s.pass now).k1 ≤ _; omega, by show (s.pass now).k2 ≤ _; omega⟩
  · split
    · exact ⟨by show (s.pass now).k0 ≤ _; omega, by show (s.pass now).k1 + 1 ≤ _; omega, by show (s.pass now).k2 ≤ _; omega⟩
    · exact ⟨by show (s.pass now).k0 ≤ _; omega, by show (s.pass now).k1 ≤ _; omega, by show (s.pass now).k2 + 1 ≤ _; omega⟩

theorem MS.pass_t0 {s : MS} (hs : s.Ok) (now : Int) : (s.pass now).t0 - s.c0 * (s.pass now).last ≤ s.t0 - s.c0 * s.last := by
  unfold MS.pass
  split
  · exact Int.le_refl _
  · rename_i h
    have h1 := fillF_le (t := s.t0) (r := s.c0) (b := s.c1) (n := now - s.last) hs.c0.1 (by omega) hs.t0.2
    have h2 : s.c0 * (now - s.last) = s.c0 * now - s.c0 * s.last := Int.mul_sub _ _ _
    show fillF s.t0 s.c0 s.c1 (now - s.last) - s.c0 * now ≤ _
    omega

theorem MS.mark_t0 {s : MS} (hs : s.Ok) {b : Int} (hb : 0 ≤ b) (hb2 : b ≤ 1522) (now : Int) :
    (s.mark b now).1.t0 - s.c0 * (s.mark b now).1.last + (if (s.mark b now).2 = 0 then b * 8000000000 else 0) ≤ s.t0 - s.c0 * s.last := by
  have h1 := MS.pass_t0 hs now
  unfold MS.mark
  rw [needF_of hb hb2]
  simp only
  split
  · show (s.pass now).t0 - b * 8000000000 - s.c0 * (s.pass now).last + b * 8000000000 ≤ _
    omega
  · split
    · show (s.pass now).t0 - s.c0 * (s.pass now).last + 0 ≤ _
      omega
    · show (s.pass now).t0 - s.c0 * (s.pass now).last + 0 ≤ _
      omega

/-- What comes in a time: as the law reckons it. -/
def comeF (c0 now : Int) : Int := c0 / 1000 * (now / 1000000) + c0 / 1000 + c0 % 1000 * (now / 1000000000 + 1) + now / 1000000 + 1

theorem come_ge {c0 now green c1 : Int} (h0 : 0 ≤ c0) (hn : 0 ≤ now) (h : green * 8000000000 ≤ c1 * 8000000000 + c0 * now) : green ≤ c1 + comeF c0 now := by
  unfold comeF
  have ea : c0 = 1000 * (c0 / 1000) + c0 % 1000 := by omega
  generalize ha : c0 / 1000 = a at *
  generalize hb : c0 % 1000 = b at *
  have ha0 : 0 ≤ a := by omega
  have hb0 : 0 ≤ b := by omega
  generalize hq : now / 1000000 = q at *
  generalize hp : now / 1000000000 = p at *
  have hq1 : now ≤ 1000000 * q + 1000000 := by omega
  have hp1 : now ≤ 1000000000 * p + 1000000000 := by omega
  have hq0 : 0 ≤ q := by omega
  have m1 : a * now ≤ a * (1000000 * q + 1000000) := Int.mul_le_mul_of_nonneg_left hq1 ha0
  have m2 : b * now ≤ b * (1000000000 * p + 1000000000) := Int.mul_le_mul_of_nonneg_left hp1 hb0
  have e1 : a * (1000000 * q + 1000000) = 1000000 * (a * q) + 1000000 * a := by rw [Int.mul_add, Int.mul_left_comm]; omega
  have e2 : b * (1000000000 * p + 1000000000) = 1000000000 * (b * (p + 1)) := by rw [show 1000000000 * p + 1000000000 = 1000000000 * (p + 1) by omega, Int.mul_left_comm]
  have e3 : c0 * now = 1000 * (a * now) + b * now := by
    conv => lhs; rw [ea]
    rw [Int.add_mul, Int.mul_assoc]
  have n1 : 0 ≤ a * q := Int.mul_nonneg ha0 hq0
  have n2 : 0 ≤ b * (p + 1) := Int.mul_nonneg hb0 (by omega)
  generalize a * q = x at *
  generalize b * (p + 1) = y at *
  omega

theorem arg_pairs {h : Heap} {v : Value} (a : Arg EE h 24 v) : ∃ A n cap, ∃ L : List (Int × Int), v = .slice A n cap ∧ n ≤ maxLen ∧ L.length = n ∧
    ∀ (i : Nat) x, L[i]? = some x → Elem h A (i * 2) 2 [.int .i64 x.1, .int .i64 x.2] ∧ (-9223372036854775808 ≤ x.1 ∧ x.1 ≤ 9223372036854775807) ∧ (-9223372036854775808 ≤ x.2 ∧ x.2 ≤ 9223372036854775807) := by
  obtain ⟨A, n, cap, rfl, h1, h2, h3⟩ := a.slice (e := 34) rfl rfl rfl rfl (by decide)
  have h4 : ∀ i, i < n → ∃ x : Int × Int, Elem h A (i * 2) 2 [.int .i64 x.1, .int .i64 x.2] ∧ (-9223372036854775808 ≤ x.1 ∧ x.1 ≤ 9223372036854775807) ∧ (-9223372036854775808 ≤ x.2 ∧ x.2 ≤ 9223372036854775807) := by
    intro i hi
    obtain ⟨cs, he, hf⟩ := h3 3 i hi
    have hf' : cs.length = 2 ∧ ∀ i, i < 2 → Fm EE h 2 2 ((cs.drop (i * 1)).take 1) := hf
    obtain ⟨hl, hf'⟩ := hf'
    match cs, hl with
    | [x, y], _ =>
      obtain ⟨p, hp, wp⟩ : ∃ n, [x] = [.int .i64 n] ∧ (Lit.int .i64 n).wf = true := hf' 0 (by decide)
      obtain ⟨q, hq, wq⟩ : ∃ n, [y] = [.int .i64 n] ∧ (Lit.int .i64 n).wf = true := hf' 1 (by decide)
      simp only [List.cons.injEq, and_true] at hp hq
      subst hp hq
      simp only [Lit.wf, IntKind.min, IntKind.max, IntKind.signed, IntKind.bits, Bool.and_eq_true, decide_eq_true_eq, if_true] at wp wq
      exact ⟨(p, q), he, by simp only; omega, by simp only; omega⟩
  obtain ⟨L, hl, hL⟩ := choose_list n h4
  exact ⟨A, n, cap, L, rfl, by omega, hl, hL⟩


structure BI (n : Nat) (c0 c1 : Int) (i : Int) (s : MS) (now green : Int) : Prop where
  i0 : 0 ≤ i
  i1 : i ≤ n
  ok : s.Ok
  c0e : s.c0 = c0
  c1e : s.c1 = c1
  k0 : s.k0 ≤ i
  k1 : s.k1 ≤ i
  k2 : s.k2 ≤ i
  now0 : 0 ≤ now
  now1 : now ≤ i * 1000000000
  last : s.last ≤ now
  g0 : 0 ≤ green
  g1 : green ≤ i * 1522
  sum : s.t0 + green * 8000000000 ≤ c1 * 8000000000 + c0 * s.last

theorem BI.next {n : Nat} {c0 c1 i : Int} {s : MS} {now green : Int} (hi : BI n c0 c1 i s now green) (hlt : i < n) (hn : (n : Int) ≤ 100) {d y : Int} (hd : 0 ≤ d) (hd2 : d ≤ 1000000000) (hy : 0 ≤ y) (hy2 : y ≤ 1522) :
    BI n c0 c1 (i + 1) (s.mark y (now + d)).1 (now + d) (if (s.mark y (now + d)).2 = 0 then green + y else green) := by
  obtain ⟨i0, i1, ho, e0, e1, q0, q1, q2, n0, n1, hl, g0, g1, hsum⟩ := hi
  have hm := MS.mark_t0 ho hy hy2 (now + d)
  have hfx := s.mark_fixed y (now + d)
  have hkk := s.mark_k y (now + d)
  have ho' := ho.mark y (now + d) (by omega) (by omega) (by omega)
  have hll : (s.mark y (now + d)).1.last ≤ now + d := by rw [MS.mark_last]; split <;> omega
  generalize (s.mark y (now + d)).1 = s' at *
  generalize (s.mark y (now + d)).2 = r at *
  rw [e0] at hm hfx
  refine ⟨by omega, by omega, ho', by omega, by omega, by omega, by omega, by omega, by omega, by omega, hll, ?_, ?_, ?_⟩
  · split <;> omega
  · split <;> omega
  · split
    · rename_i t; rw [if_pos t] at hm; omega
    · rename_i t; rw [if_neg t] at hm; omega

theorem BI.start {n : Nat} {c0 c1 c2 c3 : Int} (o0 : (MS.fresh c0 c1 c2 c3).Ok) : BI n c0 c1 0 (MS.fresh c0 c1 c2 c3) 0 0 := by
  refine ⟨by omega, by omega, o0, rfl, rfl, Int.le_refl 0, Int.le_refl 0, Int.le_refl 0, Int.le_refl 0, by omega, Int.le_refl 0, Int.le_refl 0, by omega, ?_⟩
  show c1 * 8000000000 + 0 * 8000000000 ≤ c1 * 8000000000 + c0 * 0
  omega

theorem come_wrap {c0 now c1 : Int} (h0 : 0 ≤ c0) (h1 : c0 ≤ 10000000000) (n0 : 0 ≤ now) (n1 : now ≤ 100000000000) (b0 : 0 ≤ c1) (b1 : c1 ≤ 1073741824) :
    IntKind.i64.wrap (c1 + IntKind.i64.wrap (IntKind.i64.wrap (IntKind.i64.wrap (IntKind.i64.wrap (IntKind.i64.wrap (IntKind.i64.wrap (c0.tdiv 1000) * IntKind.i64.wrap (now.tdiv 1000000)) + IntKind.i64.wrap (c0.tdiv 1000)) +
      IntKind.i64.wrap (c0.tmod 1000 * IntKind.i64.wrap (IntKind.i64.wrap (now.tdiv 1000000000) + 1))) + IntKind.i64.wrap (now.tdiv 1000000)) + 1)) = c1 + comeF c0 now := by
  unfold comeF
  rw [Int.tdiv_eq_ediv_of_nonneg h0, Int.tdiv_eq_ediv_of_nonneg n0, Int.tdiv_eq_ediv_of_nonneg n0, Int.tmod_eq_emod_of_nonneg h0]
  have a0 : 0 ≤ c0 / 1000 := by omega
  have a1 : c0 / 1000 ≤ 10000000 := by omega
  have r0 : 0 ≤ c0 % 1000 := by omega
  have r1 : c0 % 1000 ≤ 1000 := by omega
  have q0 : 0 ≤ now / 1000000 := by omega
  have q1 : now / 1000000 ≤ 100000 := by omega
  have p0 : 0 ≤ now / 1000000000 := by omega
  have p1 : now / 1000000000 ≤ 100 := by omega
  generalize c0 / 1000 = a at *
  generalize c0 % 1000 = r at *
  generalize now / 1000000 = q at *
  generalize now / 1000000000 = p at *
  have m0 : 0 ≤ a * q := Int.mul_nonneg a0 q0
  have m1 : a * q ≤ 10000000 * 100000 := Int.mul_le_mul a1 q1 q0 (by omega)
  have k0 : 0 ≤ r * (p + 1) := Int.mul_nonneg r0 (by omega)
  have k1 : r * (p + 1) ≤ 1000 * 101 := Int.mul_le_mul r1 (by omega) (by omega) (by omega)
  rw [wrap64_id (n := a) (by omega) (by omega), wrap64_id (n := q) (by omega) (by omega), wrap64_id (n := p) (by omega) (by omega), wrap64_id (n := p + 1) (by omega) (by omega)]
  generalize a * q = x at *
  generalize r * (p + 1) = y at *
  rw [wrap64_id (n := x) (by omega) (by omega), wrap64_id (n := x + a) (by omega) (by omega), wrap64_id (n := y) (by omega) (by omega), wrap64_id (n := x + a + y) (by omega) (by omega),
    wrap64_id (n := x + a + y + q) (by omega) (by omega), wrap64_id (n := x + a + y + q + 1) (by omega) (by omega), wrap64_id (by omega) (by omega)]

theorem law_MeterBounds (v0 v1 : Value) (h : Heap) (a0 : Arg EE h 23 v0) (a1 : Arg EE h 24 v1) :
    CallK Try.prog 4 #[v0, v1] h fun v h' => v = .bool true ∧ Keep (fun _ => False) h h' := by
  obtain ⟨c0, c1, c2, c3, rfl⟩ := arg_cfg a0
  obtain ⟨A, n, cap, L, rfl, hn1, hlen, hL⟩ := arg_pairs a1
  rw [maxLen_eq] at hn1
  refine CallK.of_vc EE_ok [0, 1, 2, 4, 5, 7, 8, 10, 11, 12, 14, 22, 28, 29, 30, 31, 48] Try.func4 rfl (Nat.le_of_ble_eq_true rfl) ?_
  conv => whnf
  intro b h1 hn
  conv => whnf
  refine CallK.mono (marks_call h1) ?_
  rintro _ h2 ⟨rfl, hk2⟩
  have hb := hk2.get hn.get (fun x => x)
  have k2 : Keep (fun _ => False) h h2 := ((Keep.refl _ h).new hn).and hk2
  conv => whnf
  refine iteD (fun t1 => ⟨rfl, k2⟩) (fun t1 => ?_)
  conv => whnf
  refine LdK.lit hb rfl ?_
  conv => whnf
  refine CallK.mono (check_call c0 c1 c2 c3 h2) ?_
  rintro _ h3 ⟨rfl, hk3⟩
  have k3 := k2.and hk3
  have hb3 := hk3.get hb (fun x => x)
  by_cases hc : CfgOk c0 c1 c2 c3
  case neg =>
    rw [if_neg hc]
    conv => whnf
    exact ⟨rfl, k3⟩
  rw [if_pos hc]
  conv => whnf
  refine LdK.lit hb3 rfl ?_
  conv => whnf
  refine CallK.mono (new_ok_call c0 c1 c2 c3 h3 hc) ?_
  rintro _ h4 ⟨g, T, rfl, hk4, hge, hg4⟩
  have k4 := k3.and hk4
  have hb4 := hk4.get hb3 (fun x => x)
  have hgs : h.size ≤ g := by have := k3.size; omega
  have hkg : ∀ k, k < h.size → ¬ k = g := by intro k hk; omega
  have hbg : ¬ b = g := by have := lt_of_get hb3; omega
  have o0 := MS.fresh_ok hc
  conv => whnf
  refine ⟨Int × MS × Int × Int, [0, 1, 2, 5, 28, 29], fun x => [(30, .int .i64 x.1), (7, .int .i64 x.2.2.1), (8, .int .i64 x.2.2.2)],
    fun x h' => BI n c0 c1 x.1 x.2.1 x.2.2.1 x.2.2.2 ∧ Keep (fun _ => False) h h' ∧ h'[g]? = some (.cells x.2.1.cells.toArray T (0, 0)) ∧ h'[b]? = some (.cells #[.int .i64 c0, .int .i64 c1, .int .i64 c2, .int .i64 c3] 23 (0, 0)),
    fun x => ((n : Int) - x.1).toNat, ?_⟩
  conv => whnf
  refine ⟨⟨(0, MS.fresh c0 c1 c2 c3, 0, 0), ⟨rfl, rfl, rfl, trivial⟩, ⟨BI.start o0, k4, hg4, hb4⟩⟩, ?_⟩
  rintro ⟨i, s, now, green⟩ h5 ⟨hB, k5, hg5, hb5⟩
  simp only at hg5 hB
  have i0 := hB.i0
  have i1 := hB.i1
  have ho := hB.ok
  have n0 := hB.now0
  have n1 := hB.now1
  have g0 := hB.g0
  have g1 := hB.g1
  have hn100 : (n : Int) ≤ 100 := by omega
  conv => whnf
  refine iteD (fun t => ?_) (fun t => ?_)
  · have hi : i.toNat < n := by omega
    obtain ⟨x, hx⟩ : ∃ x, L[i.toNat]? = some x := ⟨_, List.getElem?_eq_getElem (by omega)⟩
    obtain ⟨hel, hx1, hx2⟩ := hL _ _ hx
    obtain ⟨sb, so, rfl⟩ := hel.some
    have hel5 := hel.keep k5
    conv => whnf
    refine cnd_intro (by simp; omega) ?_
    conv => whnf
    refine LdK.elem hel5 (y := ⟨.array 2 2, 2, 16, true, some (.agg #[.int .i64 0, .int .i64 0])⟩) rfl rfl (.inl rfl) ?_
    conv => whnf
    intro f h6 hn6
    conv => whnf
    refine StK.lit hn6.get rfl rfl rfl rfl fun h7 hu7 => ?_
    have k7 : Keep (fun _ => False) h h7 := (k5.new hn6).upd hu7 (by have := hn6.at_; have := k5.size; omega)
    have hfg : ¬ g = f := by have := hn6.at_; have := lt_of_get hg5; omega
    have hfb : ¬ b = f := by have := hn6.at_; have := lt_of_get hb5; omega
    have hg7 := hu7.got (hn6.got hg5) hfg
    have hb7 := hu7.got (hn6.got hb5) hfb
    have hf7 := hu7.get
    conv => whnf
    refine LdK.lit hf7 rfl ?_
    conv => whnf
    refine LdK.lit hf7 rfl ?_
    conv => whnf
    generalize hd : (if 1000000000 < (if 0 > x.1 then 0 else x.1) then 1000000000 else (if 0 > x.1 then 0 else x.1)) = d
    have hd0 : 0 ≤ d ∧ d ≤ 1000000000 := by rw [← hd]; split <;> split <;> omega
    generalize hy : (if 1522 < (if 0 > x.2 then 0 else x.2) then 1522 else (if 0 > x.2 then 0 else x.2)) = y
    have hy0 : 0 ≤ y ∧ y ≤ 1522 := by rw [← hy]; split <;> split <;> omega
    have w1 : IntKind.i64.wrap (now + d) = now + d := wrap64_id (by omega) (by omega)
    have w3 : IntKind.i64.wrap (i + 1) = i + 1 := wrap64_id (by omega) (by omega)
    have w2 : IntKind.i64.wrap (green + y) = green + y := wrap64_id (by omega) (by omega)
    have hnx := hB.next (d := d) (y := y) (by omega) hn100 hd0.1 hd0.2 hy0.1 hy0.2
    rw [w1]
    refine CallK.mono (mark_call s g T y (now + d) h7 ho (by omega) hg7) ?_
    rintro _ h8 ⟨rfl, hk8, hg8⟩
    have k8 := k7.after hk8 hkg
    have hb8 := hk8.get hb7 hbg
    generalize (s.mark y (now + d)).1 = s' at *
    generalize (s.mark y (now + d)).2 = r at *
    conv => whnf
    refine iteE (fun t2 => ?_) (fun t2 => ?_)
    · rw [if_pos t2] at hnx
      conv => whnf
      refine ⟨(i + 1, s', now + d, green + y), ⟨?_, ?_, ?_, trivial⟩, ⟨rfl, rfl, rfl, rfl, rfl, rfl, trivial⟩, ⟨hnx, k8, hg8, hb8⟩, ?_⟩
      · show Value.int .i64 _ = _; rw [w3]
      · rfl
      · show Value.int .i64 _ = _; rw [w2]
      · show ((n : Int) - (i + 1)).toNat < ((n : Int) - i).toNat; omega
    · rw [if_neg t2] at hnx
      conv => whnf
      refine ⟨(i + 1, s', now + d, green), ⟨?_, ?_, ?_, trivial⟩, ⟨rfl, rfl, rfl, rfl, rfl, rfl, trivial⟩, ⟨hnx, k8, hg8, hb8⟩, ?_⟩
      · show Value.int .i64 _ = _; rw [w3]
      · rfl
      · rfl
      · show ((n : Int) - (i + 1)).toNat < ((n : Int) - i).toNat; omega
  · conv => whnf
    refine LdK.lit hb5 rfl ?_
    conv => whnf
    refine LdK.lit hb5 rfl ?_
    conv => whnf
    refine LdK.lit hb5 rfl ?_
    conv => whnf
    refine LdK.lit hb5 rfl ?_
    conv => whnf
    refine ⟨?_, k5⟩
    refine (tup_one _).trans (congrArg Value.bool (decide_eq_true ?_))
    obtain ⟨⟨c00, c01⟩, _, ⟨c10, c11⟩, _⟩ := hc
    show green ≤ _
    have z := come_wrap (c0 := c0) (now := now) (c1 := c1) (by omega) (by omega) (by omega) (by omega) (by omega) (by omega)
    refine Int.le_trans (come_ge (c0 := c0) (now := now) (c1 := c1) (by omega) (by omega) ?_) (Int.le_of_eq z.symm)
    have hl := hB.last
    have hs := hB.sum
    have ht := ho.t0.1
    have m1 : c0 * s.last ≤ c0 * now := Int.mul_le_mul_of_nonneg_left hl (by omega)
    omega

end Go.Proofs.Ytpcjdcpfbpdcfaa
