import Derived.Test.YtloghahkelogbaaEnv
namespace Go.Proofs.Ytloghahkelogbaa
open Go.Vc
set_option maxRecDepth 10000

/-! ### meter: what a meter holds, and what its functions do to it -/

structure MS where
  c0 : Int
  c1 : Int
  c2 : Int
  c3 : Int
  t0 : Int
  t1 : Int
  last : Int
  k0 : Int
  k1 : Int
  k2 : Int

def MS.cells (s : MS) : List Value := [.int .i64 s.c0, .int .i64 s.c1, .int .i64 s.c2, .int .i64 s.c3, .int .i64 s.t0, .int .i64 s.t1, .int .i64 s.last, .int .i64 s.k0, .int .i64 s.k1, .int .i64 s.k2]

structure MS.Ok (s : MS) : Prop where
  c0 : 0 ≤ s.c0 ∧ s.c0 ≤ 10000000000
  c1 : 0 ≤ s.c1 ∧ s.c1 ≤ 1048576
  c2 : 0 ≤ s.c2 ∧ s.c2 ≤ 10000000000
  c3 : 0 ≤ s.c3 ∧ s.c3 ≤ 1048576
  t0 : 0 ≤ s.t0 ∧ s.t0 ≤ s.c1 * 8000000000
  t1 : 0 ≤ s.t1 ∧ s.t1 ≤ s.c3 * 8000000000
  last : 0 ≤ s.last
  k0 : 0 ≤ s.k0 ∧ s.k0 ≤ 1000000000
  k1 : 0 ≤ s.k1 ∧ s.k1 ≤ 1000000000
  k2 : 0 ≤ s.k2 ∧ s.k2 ≤ 1000000000

def fillF (t r b n : Int) : Int := if r = 0 ∨ b * 8000000000 - t = 0 then t else if n > (b * 8000000000 - t) / r then b * 8000000000 else t + r * n

theorem fillF_bounds {t r b n : Int} (_ : 0 ≤ b) (_ : 0 ≤ t) (ht2 : t ≤ b * 8000000000) (hr : 0 ≤ r) (hn : 0 ≤ n) : t ≤ fillF t r b n ∧ fillF t r b n ≤ b * 8000000000 := by
  unfold fillF
  split
  · omega
  · rename_i h1
    split
    · omega
    · rename_i h2
      have h0 : 0 ≤ r * n := Int.mul_nonneg hr hn
      have h3 : n ≤ (b * 8000000000 - t) / r := by omega
      have h4 : n * r ≤ b * 8000000000 - t := by
        have := Int.mul_le_mul_of_nonneg_right h3 hr
        have h5 := Int.ediv_mul_le (b * 8000000000 - t) (b := r) (by omega)
        omega
      have h6 : n * r = r * n := Int.mul_comm _ _
      omega

theorem fill_call (t r b n : Int) (h : Heap) (hb : 0 ≤ b) (hb' : b ≤ 1048576) (ht : 0 ≤ t) (ht2 : t ≤ b * 8000000000) (hr : 0 ≤ r) (hn : 0 ≤ n) :
   CallK Try.prog 39 #[.int .i64 t, .int .i64 r, .int .i64 b, .int .i64 n] h fun v h' => v = .int .i64 (fillF t r b n) ∧ h' = h := by
  refine CallK.of_vc EE_ok [0, 1, 2, 3, 8, 9, 19, 25] Try.func39 rfl (Nat.le_of_ble_eq_true rfl) ?_
  have w1 : IntKind.i64.wrap (b * 8000000000) = b * 8000000000 := wrap64_id (by omega) (by omega)
  have w2 : IntKind.i64.wrap (b * 8000000000 - t) = b * 8000000000 - t := wrap64_id (by omega) (by omega)
  conv => whnf
  refine iteB_split (fun h1 => ?_) (fun h1 => ?_)
  · conv => whnf
    have : r = 0 := by simpa using h1
    exact ⟨by simp [fillF, this, tup_one], rfl⟩
  · have h1' : ¬ r = 0 := by simpa using h1
    conv => whnf
    refine iteB_split (fun h2 => ?_) (fun h2 => ?_)
    · conv => whnf
      rw [w1, w2] at h2
      have : b * 8000000000 - t = 0 := by simpa using h2
      exact ⟨by simp [fillF, this, tup_one], rfl⟩
    · rw [w1, w2] at h2
      have h2' : ¬ b * 8000000000 - t = 0 := by simpa using h2
      have hq : (b * 8000000000 - t).tdiv r = (b * 8000000000 - t) / r := Int.tdiv_eq_ediv_of_nonneg (by omega)
      have hq0 : 0 ≤ (b * 8000000000 - t) / r := Int.ediv_nonneg (by omega) hr
      have hq1 : (b * 8000000000 - t) / r ≤ b * 8000000000 - t := Int.ediv_le_self _ (by omega)
      have w3 : IntKind.i64.wrap ((b * 8000000000 - t).tdiv r) = (b * 8000000000 - t) / r := by rw [hq]; exact wrap64_id (by omega) (by omega)
      have hF := fillF_bounds hb ht ht2 hr hn
      conv => whnf
      refine cnd_intro (by simpa using h1') ?_
      conv => whnf
      refine iteB_split (fun h3 => ?_) (fun h3 => ?_)
      · conv => whnf
        rw [w1, w2, w3] at h3
        have : n > (b * 8000000000 - t) / r := by simpa using h3
        refine ⟨?_, rfl⟩
        rw [tup_one, w1]
        unfold fillF
        rw [if_neg (by omega), if_pos this]
      · conv => whnf
        rw [w1, w2, w3] at h3
        have h3' : ¬ n > (b * 8000000000 - t) / r := by simpa using h3
        have e : fillF t r b n = t + r * n := by
          unfold fillF
          rw [if_neg (by omega), if_neg h3']
        refine ⟨?_, rfl⟩
        rw [tup_one, e]
        rw [e] at hF
        rw [wrap64_id (n := r * n) (by omega) (by omega), wrap64_id (by omega) (by omega)]

def MS.pass (s : MS) (now : Int) : MS := if now ≤ s.last then s else
  { s with t0 := fillF s.t0 s.c0 s.c1 (now - s.last), t1 := fillF s.t1 s.c2 s.c3 (now - s.last), last := now }

theorem MS.Ok.pass {s : MS} (hs : s.Ok) (now : Int) : (s.pass now).Ok := by
  unfold MS.pass
  split
  · exact hs
  · rename_i h
    obtain ⟨a, b, c, d, e, f, g, h1, h2, h3⟩ := hs
    have f0 := fillF_bounds (t := s.t0) (r := s.c0) (b := s.c1) (n := now - s.last) b.1 e.1 e.2 a.1 (by omega)
    have f1 := fillF_bounds (t := s.t1) (r := s.c2) (b := s.c3) (n := now - s.last) d.1 f.1 f.2 c.1 (by omega)
    exact ⟨a, b, c, d, ⟨by show 0 ≤ fillF _ _ _ _; omega, f0.2⟩, ⟨by show 0 ≤ fillF _ _ _ _; omega, f1.2⟩, by show 0 ≤ now; omega, h1, h2, h3⟩

theorem pass_call (s : MS) (g : Nat) (T : TypeId) (now : Int) (h : Heap) (hs : s.Ok) (h2 : now ≤ 9223372036854775807) (hg : h[g]? = some (.cells s.cells.toArray T (0, 0))) :
   CallK Try.prog 31 #[.pointer (some ⟨g, 0, none⟩), .int .i64 now] h fun v h' => v = .tuple #[] ∧ Keep (· = g) h h' ∧
     h'[g]? = some (.cells (s.pass now).cells.toArray T (0, 0)) := by
  refine CallK.of_vc EE_ok [0, 1, 4, 10] Try.func31 rfl (Nat.le_of_ble_eq_true rfl) ?_
  conv => whnf
  refine LdK.lit hg rfl ?_
  conv => whnf
  refine iteB_split (fun hle => ?_) (fun hlt => ?_)
  · conv => whnf
    have hle' : now ≤ s.last := by simpa using hle
    refine ⟨rfl, Keep.refl _ _, ?_⟩
    unfold MS.pass
    rw [if_pos hle']
    exact hg
  · have hlt' : ¬ now ≤ s.last := by simpa using hlt
    obtain ⟨a, b, c, d, e, f, hl, k0, k1, k2⟩ := hs
    have w1 : IntKind.i64.wrap (now - s.last) = now - s.last := wrap64_id (by omega) (by omega)
    conv => whnf
    refine LdK.lit hg rfl ?_
    conv => whnf
    intro b h1 hn
    conv => whnf
    refine StK.lit hn.get rfl rfl rfl rfl fun h2 hu2 => ?_
    conv => whnf
    have hne : b ≠ g := by have := lt_of_get hg; have := hn.at_; omega
    have hg2 := hu2.got (hn.got hg) hne.symm
    have hb2 := hu2.get
    refine Drawn.mk (by kernel_rfl) ?_
    conv => whnf
    refine LdK.lit hg2 rfl ?_
    conv => whnf
    refine LdK.lit hb2 rfl ?_
    conv => whnf
    refine LdK.lit hb2 rfl ?_
    conv => whnf
    refine LdK.lit hg2 rfl ?_
    conv => whnf
    refine CallK.mono (fill_call _ _ _ _ _ (by omega) (by omega) (by omega) (by omega) (by omega) (by rw [w1]; omega)) ?_
    rintro _ _ ⟨rfl, rfl⟩
    conv => whnf
    refine StK.lit hg2 rfl rfl rfl rfl fun h3 hu3 => ?_
    have hg3 := hu3.get
    have hb3 := hu3.got hb2 hne
    conv => whnf
    refine Drawn.mk (by kernel_rfl) ?_
    conv => whnf
    refine LdK.lit hg3 rfl ?_
    conv => whnf
    refine LdK.lit hb3 rfl ?_
    conv => whnf
    refine LdK.lit hb3 rfl ?_
    conv => whnf
    refine LdK.lit hg3 rfl ?_
    conv => whnf
    refine CallK.mono (fill_call _ _ _ _ _ (by omega) (by omega) (by omega) (by omega) (by omega) (by rw [w1]; omega)) ?_
    rintro _ _ ⟨rfl, rfl⟩
    conv => whnf
    refine StK.lit hg3 rfl rfl rfl rfl fun h4 hu4 => ?_
    conv => whnf
    refine StK.lit hu4.get rfl rfl rfl rfl fun h5 hu5 => ?_
    conv => whnf
    refine ⟨rfl, ?_, ?_⟩
    · exact ((((hn.keep.trans hu2.keep (by rintro k hk rfl; have := hn.at_; omega)).trans hu3.keep (fun k _ e => e)).trans hu4.keep (fun k _ e => e)).trans hu5.keep (fun k _ e => e))
    · rw [hu5.get, w1]
      unfold MS.pass
      rw [if_neg hlt']
      rfl


def needF (bytes : Int) : Int := (if 2097152 < (if 0 > bytes then 0 else bytes) then 2097152 else (if 0 > bytes then 0 else bytes)) * 8000000000

theorem needF_bounds (b : Int) : 0 ≤ needF b ∧ needF b ≤ 2097152 * 8000000000 := by unfold needF; split <;> split <;> omega

def MS.mark (s : MS) (bytes now : Int) : MS × Int :=
  let s := s.pass now
  if s.t0 ≥ needF bytes then ({ s with t0 := s.t0 - needF bytes, k0 := s.k0 + 1 }, 0)
  else if s.t1 ≥ needF bytes then ({ s with t1 := s.t1 - needF bytes, k1 := s.k1 + 1 }, 1)
  else ({ s with k2 := s.k2 + 1 }, 2)

theorem mark_call (s : MS) (g : Nat) (T : TypeId) (bytes now : Int) (h : Heap) (hs : s.Ok) (h2 : now ≤ 9223372036854775807) (hg : h[g]? = some (.cells s.cells.toArray T (0, 0))) :
   CallK Try.prog 16 #[.pointer (some ⟨g, 0, none⟩), .int .i64 bytes, .int .i64 now] h fun v h' => v = .int .i64 (s.mark bytes now).2 ∧ Keep (· = g) h h' ∧
     h'[g]? = some (.cells (s.mark bytes now).1.cells.toArray T (0, 0)) := by
  refine CallK.of_vc EE_ok [0, 1, 2, 6, 7, 8, 16, 17, 26] Try.func16 rfl (Nat.le_of_ble_eq_true rfl) ?_
  conv => whnf
  refine CallK.mono (pass_call s g T now h hs h2 hg) ?_
  rintro _ h1 ⟨rfl, hk1, hg1⟩
  have hs1 := hs.pass now
  have hmark : s.mark bytes now = (let s := s.pass now
    if s.t0 ≥ needF bytes then ({ s with t0 := s.t0 - needF bytes, k0 := s.k0 + 1 }, 0)
    else if s.t1 ≥ needF bytes then ({ s with t1 := s.t1 - needF bytes, k1 := s.k1 + 1 }, 1)
    else ({ s with k2 := s.k2 + 1 }, 2)) := rfl
  generalize s.pass now = s1 at hg1 hs1 hmark
  conv => whnf
  have hneed := needF_bounds bytes
  have hw : IntKind.i64.wrap ((if 2097152 < (if 0 > bytes then 0 else bytes) then 2097152 else (if 0 > bytes then 0 else bytes)) * 8000000000) = needF bytes := wrap64_id (by show _ ≤ needF bytes; omega) (by show needF bytes ≤ _; omega)
  refine ⟨Int, [0, 1, 2, 7], fun i => [(16, .int .i64 i)], fun i h' => h' = h1 ∧ 0 ≤ i ∧ i ≤ 2 ∧ (1 ≤ i → s1.t0 < needF bytes) ∧ (2 ≤ i → s1.t1 < needF bytes), fun i => (2 - i).toNat, ?_⟩
  conv => whnf
  rw [hw]
  obtain ⟨a, b, c, d, e, f, hl, k0, k1, k2⟩ := hs1
  refine ⟨⟨0, ⟨rfl, trivial⟩, rfl, by omega, by omega, fun h => by omega, fun h => by omega⟩, ?_⟩
  rintro i _ ⟨rfl, hi0, hi2, hi3, hi4⟩
  conv => whnf
  refine iteB_split (fun hlt => ?_) (fun hge => ?_)
  · have hlt' : i < 2 := by simpa using hlt
    rcases (by omega : i = 0 ∨ i = 1) with rfl | rfl
    · conv => whnf
      refine LdK.lit hg1 rfl ?_
      conv => whnf
      refine iteB_split (fun h3 => ?_) (fun h3 => ?_)
      · have h3' : s1.t0 ≥ needF bytes := by simpa using h3
        conv => whnf
        refine Drawn.mk (by kernel_rfl) ?_
        conv => whnf
        refine LdK.lit hg1 rfl ?_
        conv => whnf
        refine StK.lit hg1 rfl rfl rfl rfl fun h4 hu4 => ?_
        conv => whnf
        refine Drawn.mk (by kernel_rfl) ?_
        conv => whnf
        refine LdK.lit hu4.get rfl ?_
        conv => whnf
        refine StK.lit hu4.get rfl rfl rfl rfl fun h5 hu5 => ?_
        conv => whnf
        rw [hmark]
        simp only [if_pos h3']
        refine ⟨rfl, (hk1.trans hu4.keep (fun k _ e => e)).trans hu5.keep (fun k _ e => e), ?_⟩
        refine Eq.trans hu5.get ?_
        rw [wrap64_id (by omega) (by omega), wrap64_id (by omega) (by omega)]
        rfl
      · have h3' : s1.t0 < needF bytes := by simpa using h3
        conv => whnf
        exact ⟨1, ⟨rfl, trivial⟩, ⟨rfl, rfl, rfl, rfl, trivial⟩, ⟨rfl, by omega, by omega, fun _ => h3', fun h => by omega⟩, by decide⟩
    · have h0 := hi3 (by omega)
      conv => whnf
      refine LdK.lit hg1 rfl ?_
      conv => whnf
      refine iteB_split (fun h3 => ?_) (fun h3 => ?_)
      · have h3' : s1.t1 ≥ needF bytes := by simpa using h3
        conv => whnf
        refine Drawn.mk (by kernel_rfl) ?_
        conv => whnf
        refine LdK.lit hg1 rfl ?_
        conv => whnf
        refine StK.lit hg1 rfl rfl rfl rfl fun h4 hu4 => ?_
        conv => whnf
        refine Drawn.mk (by kernel_rfl) ?_
        conv => whnf
        refine LdK.lit hu4.get rfl ?_
        conv => whnf
        refine StK.lit hu4.get rfl rfl rfl rfl fun h5 hu5 => ?_
        conv => whnf
        rw [hmark]
        simp only [if_neg (show ¬ s1.t0 ≥ needF bytes by omega), if_pos h3']
        refine ⟨rfl, (hk1.trans hu4.keep (fun k _ e => e)).trans hu5.keep (fun k _ e => e), ?_⟩
        refine Eq.trans hu5.get ?_
        rw [wrap64_id (by omega) (by omega), wrap64_id (by omega) (by omega)]
        rfl
      · have h3' : s1.t1 < needF bytes := by simpa using h3
        conv => whnf
        exact ⟨2, ⟨rfl, trivial⟩, ⟨rfl, rfl, rfl, rfl, trivial⟩, ⟨rfl, by omega, by omega, fun _ => h0, fun _ => h3'⟩, by decide⟩
  · have hge' : ¬ i < 2 := by simpa using hge
    obtain rfl : i = 2 := by omega
    have h0 := hi3 (by omega)
    have h1' := hi4 (by omega)
    conv => whnf
    refine Drawn.mk (by kernel_rfl) ?_
    conv => whnf
    refine LdK.lit hg1 rfl ?_
    conv => whnf
    refine StK.lit hg1 rfl rfl rfl rfl fun h4 hu4 => ?_
    conv => whnf
    rw [hmark]
    simp only [if_neg (show ¬ s1.t0 ≥ needF bytes by omega), if_neg (show ¬ s1.t1 ≥ needF bytes by omega)]
    refine ⟨rfl, hk1.trans hu4.keep (fun k _ e => e), ?_⟩
    refine Eq.trans hu4.get ?_
    rw [wrap64_id (by omega) (by omega)]
    rfl

theorem MS.Ok.mark {s : MS} (hs : s.Ok) (bytes now : Int) (h0 : s.k0 ≤ 999999999) (h1 : s.k1 ≤ 999999999) (h2 : s.k2 ≤ 999999999) : (s.mark bytes now).1.Ok := by
  have hp := hs.pass now
  have e0 : (s.pass now).k0 = s.k0 ∧ (s.pass now).k1 = s.k1 ∧ (s.pass now).k2 = s.k2 := by unfold MS.pass; split <;> simp
  have hneed := needF_bounds bytes
  unfold MS.mark
  generalize s.pass now = s1 at hp e0
  obtain ⟨a, b, c, d, e, f, hl, k0, k1, k2⟩ := hp
  simp only
  split
  · exact ⟨a, b, c, d, ⟨by show 0 ≤ s1.t0 - _; omega, by show s1.t0 - _ ≤ s1.c1 * _; omega⟩, f, hl, ⟨by show 0 ≤ s1.k0 + 1; omega, by show s1.k0 + 1 ≤ _; omega⟩, k1, k2⟩
  · split
    · exact ⟨a, b, c, d, e, ⟨by show 0 ≤ s1.t1 - _; omega, by show s1.t1 - _ ≤ s1.c3 * _; omega⟩, hl, k0, ⟨by show 0 ≤ s1.k1 + 1; omega, by show s1.k1 + 1 ≤ _; omega⟩, k2⟩
    · exact ⟨a, b, c, d, e, f, hl, k0, k1, ⟨by show 0 ≤ s1.k2 + 1; omega, by show s1.k2 + 1 ≤ _; omega⟩⟩


/-- May it be? -/
def CfgOk (c0 c1 c2 c3 : Int) : Prop := (0 ≤ c0 ∧ c0 ≤ 10000000000) ∧ (0 ≤ c1 ∧ c1 ≤ 1048576) ∧ (0 ≤ c2 ∧ c2 ≤ 10000000000) ∧ (0 ≤ c3 ∧ c3 ≤ 1048576)
instance (a b c d : Int) : Decidable (CfgOk a b c d) := by unfold CfgOk; infer_instance


theorem check_call (c0 c1 c2 c3 : Int) (h : Heap) :
   CallK Try.prog 27 #[.agg #[.int .i64 c0, .int .i64 c1, .int .i64 c2, .int .i64 c3]] h fun v h' => v = .int .i64 (if CfgOk c0 c1 c2 c3 then 0 else 30) ∧ Keep (fun _ => False) h h' := by
  refine CallK.of_vc EE_ok [0, 1, 2, 4, 15, 16, 17, 36] Try.func27 rfl (Nat.le_of_ble_eq_true rfl) ?_
  conv => whnf
  intro b h1 hn
  conv => whnf
  have hb := hn.get
  refine LdK.lit hb rfl ?_
  conv => whnf
  refine LdK.lit hb rfl ?_
  conv => whnf
  refine FillK.lit rfl ?_
  conv => whnf
  refine LdK.lit hb rfl ?_
  conv => whnf
  refine LdK.lit hb rfl ?_
  conv => whnf
  refine FillK.lit rfl ?_
  conv => whnf
  refine FillK.lit rfl ?_
  conv => whnf
  refine ⟨Int, [0, 1, 15], fun i => [(16, .int .i64 i)], fun i h' => Keep (fun _ => False) h h' ∧ 0 ≤ i ∧ i ≤ 2 ∧ (1 ≤ i → (0 ≤ c0 ∧ c0 ≤ 10000000000) ∧ (0 ≤ c1 ∧ c1 ≤ 1048576)) ∧ (2 ≤ i → (0 ≤ c2 ∧ c2 ≤ 10000000000) ∧ (0 ≤ c3 ∧ c3 ≤ 1048576)), fun i => (2 - i).toNat, ?_⟩
  conv => whnf
  refine ⟨⟨0, ⟨rfl, trivial⟩, hn.keep, by omega, by omega, fun h => by omega, fun h => by omega⟩, ?_⟩
  rintro i h2 ⟨hk2, hi0, hi2, hi3, hi4⟩
  conv => whnf
  refine iteB_split (fun hlt => ?_) (fun hge => ?_)
  · have hlt' : i < 2 := by simpa using hlt
    have key : ∀ (p q : Int) (e : Nat) (h3 : Heap), h3[e]? = some (.cells #[.int .i64 p, .int .i64 q] 91 (0, 0)) → True := fun _ _ _ _ _ => trivial
    rcases (by omega : i = 0 ∨ i = 1) with rfl | rfl
    · conv => whnf
      intro e h3 hn3
      conv => whnf
      refine StK.lit hn3.get rfl rfl rfl rfl fun h4 hu4 => ?_
      have hk4 : Keep (fun _ => False) h h4 := ⟨by have := hk2.size; rw [hu4.size, hn3.size]; omega, fun k hk hf => by
        have h5 : k ≠ e := by have := hn3.at_; have := hk2.size; omega
        rw [hu4.old k h5, hn3.old k (by have := hk2.size; omega), hk2.old k hk hf]⟩
      have he := hu4.get
      conv => whnf
      refine LdK.lit he rfl ?_
      conv => whnf
      refine iteB_split (fun h5 => ?_) (fun h5 => ?_)
      · have h5' : c0 < 0 := by simpa using h5
        conv => whnf
        exact ⟨by rw [tup_one, if_neg (by unfold CfgOk; omega)], hk4⟩
      have h5' : ¬ c0 < 0 := by simpa using h5
      conv => whnf
      refine LdK.lit he rfl ?_
      conv => whnf
      refine iteB_split (fun h6 => ?_) (fun h6 => ?_)
      · have h6' : c0 > 10000000000 := by simpa using h6
        conv => whnf
        exact ⟨by rw [tup_one, if_neg (by unfold CfgOk; omega)], hk4⟩
      have h6' : ¬ c0 > 10000000000 := by simpa using h6
      conv => whnf
      refine LdK.lit he rfl ?_
      conv => whnf
      refine iteB_split (fun h7 => ?_) (fun h7 => ?_)
      · have h7' : c1 < 0 := by simpa using h7
        conv => whnf
        exact ⟨by rw [tup_one, if_neg (by unfold CfgOk; omega)], hk4⟩
      have h7' : ¬ c1 < 0 := by simpa using h7
      conv => whnf
      refine LdK.lit he rfl ?_
      conv => whnf
      refine iteB_split (fun h8 => ?_) (fun h8 => ?_)
      · have h8' : c1 > 1048576 := by simpa using h8
        conv => whnf
        exact ⟨by rw [tup_one, if_neg (by unfold CfgOk; omega)], hk4⟩
      have h8' : ¬ c1 > 1048576 := by simpa using h8
      conv => whnf
      exact ⟨1, ⟨rfl, trivial⟩, ⟨rfl, rfl, rfl, trivial⟩, ⟨hk4, by omega, by omega, fun _ => by omega, fun h => by omega⟩, by decide⟩
    · conv => whnf
      intro e h3 hn3
      conv => whnf
      refine StK.lit hn3.get rfl rfl rfl rfl fun h4 hu4 => ?_
      have hk4 : Keep (fun _ => False) h h4 := ⟨by have := hk2.size; rw [hu4.size, hn3.size]; omega, fun k hk hf => by
        have h5 : k ≠ e := by have := hn3.at_; have := hk2.size; omega
        rw [hu4.old k h5, hn3.old k (by have := hk2.size; omega), hk2.old k hk hf]⟩
      have he := hu4.get
      have h0 := hi3 (by omega)
      conv => whnf
      refine LdK.lit he rfl ?_
      conv => whnf
      refine iteB_split (fun h5 => ?_) (fun h5 => ?_)
      · have h5' : c2 < 0 := by simpa using h5
        conv => whnf
        exact ⟨by rw [tup_one, if_neg (by unfold CfgOk; omega)], hk4⟩
      have h5' : ¬ c2 < 0 := by simpa using h5
      conv => whnf
      refine LdK.lit he rfl ?_
      conv => whnf
      refine iteB_split (fun h6 => ?_) (fun h6 => ?_)
      · have h6' : c2 > 10000000000 := by simpa using h6
        conv => whnf
        exact ⟨by rw [tup_one, if_neg (by unfold CfgOk; omega)], hk4⟩
      have h6' : ¬ c2 > 10000000000 := by simpa using h6
      conv => whnf
      refine LdK.lit he rfl ?_
      conv => whnf
      refine iteB_split (fun h7 => ?_) (fun h7 => ?_)
      · have h7' : c3 < 0 := by simpa using h7
        conv => whnf
        exact ⟨by rw [tup_one, if_neg (by unfold CfgOk; omega)], hk4⟩
      have h7' : ¬ c3 < 0 := by simpa using h7
      conv => whnf
      refine LdK.lit he rfl ?_
      conv => whnf
      refine iteB_split (fun h8 => ?_) (fun h8 => ?_)
      · have h8' : c3 > 1048576 := by simpa using h8
        conv => whnf
        exact ⟨by rw [tup_one, if_neg (by unfold CfgOk; omega)], hk4⟩
      have h8' : ¬ c3 > 1048576 := by simpa using h8
      conv => whnf
      exact ⟨2, ⟨rfl, trivial⟩, ⟨rfl, rfl, rfl, trivial⟩, ⟨hk4, by omega, by omega, fun _ => by omega, fun h => by omega⟩, by decide⟩
  · have hge' : ¬ i < 2 := by simpa using hge
    have h0 := hi3 (by omega)
    have h1' := hi4 (by omega)
    conv => whnf
    exact ⟨by rw [tup_one, if_pos (by unfold CfgOk; omega)], hk2⟩

theorem new_ok_call (c0 c1 c2 c3 : Int) (h : Heap) (hc : CfgOk c0 c1 c2 c3) :
   CallK Try.prog 10 #[.agg #[.int .i64 c0, .int .i64 c1, .int .i64 c2, .int .i64 c3]] h fun v h' => ∃ g T, v = .tuple #[.pointer (some ⟨g, 0, none⟩), .int .i64 0] ∧ Keep (fun _ => False) h h' ∧ h.size ≤ g ∧
     h'[g]? = some (.cells (MS.cells ⟨c0, c1, c2, c3, c1 * 8000000000, c3 * 8000000000, 0, 0, 0, 0⟩).toArray T (0, 0)) := by
  refine CallK.of_vc EE_ok [0, 1, 2, 3, 4, 8] Try.func10 rfl (Nat.le_of_ble_eq_true rfl) ?_
  conv => whnf
  intro b h1 hn
  conv => whnf
  refine LdK.lit hn.get rfl ?_
  conv => whnf
  refine CallK.mono (check_call c0 c1 c2 c3 h1) ?_
  rintro _ h2 ⟨rfl, hk2⟩
  rw [if_pos hc]
  obtain ⟨a, b', c, d⟩ := hc
  have hb := hk2.get hn.get (fun x => x)
  conv => whnf
  refine LdK.lit hb rfl ?_
  conv => whnf
  refine LdK.lit hb rfl ?_
  conv => whnf
  refine LdK.lit hb rfl ?_
  conv => whnf
  refine FillK.lit rfl ?_
  conv => whnf
  refine FillK.lit rfl ?_
  conv => whnf
  intro g h3 hn3
  conv => whnf
  refine ⟨g, 94, rfl, ?_, ?_, Eq.trans hn3.get ?_⟩
  · exact (hn.keep.trans hk2 (fun _ _ x => x)).trans hn3.keep (fun _ _ x => x)
  · have h4 := hn3.at_
    have h5 := hk2.size
    have h6 := hn.size
    omega
  · rw [wrap64_id (n := c1 * 8000000000) (by omega) (by omega), wrap64_id (n := c3 * 8000000000) (by omega) (by omega)]
    rfl

theorem new_bad_call (c0 c1 c2 c3 : Int) (h : Heap) (hc : ¬ CfgOk c0 c1 c2 c3) :
   CallK Try.prog 10 #[.agg #[.int .i64 c0, .int .i64 c1, .int .i64 c2, .int .i64 c3]] h fun v h' => v = .tuple #[.pointer none, .int .i64 30] ∧ Keep (fun _ => False) h h' := by
  refine CallK.of_vc EE_ok [0, 1, 2, 3, 4, 8] Try.func10 rfl (Nat.le_of_ble_eq_true rfl) ?_
  conv => whnf
  intro b h1 hn
  conv => whnf
  refine LdK.lit hn.get rfl ?_
  conv => whnf
  refine CallK.mono (check_call c0 c1 c2 c3 h1) ?_
  rintro _ h2 ⟨rfl, hk2⟩
  rw [if_neg hc]
  conv => whnf
  exact ⟨rfl, hn.keep.trans hk2 (fun _ _ x => x)⟩


def s0 : MS := ⟨8000, 150, 0, 100, 1200000000000, 800000000000, 0, 0, 0, 0⟩

end Go.Proofs.Ytloghahkelogbaa
