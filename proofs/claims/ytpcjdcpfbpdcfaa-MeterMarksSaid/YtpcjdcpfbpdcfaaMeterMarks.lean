import Derived.Test.YtpcjdcpfbpdcfaaMeterBounds
namespace Go.Proofs.Ytpcjdcpfbpdcfaa
open Go.Vc
set_option maxRecDepth 10000

/-- The tokens, cut off at the top. -/
theorem fillF_min {t r b n : Int} (hr : 0 ≤ r) (hn : 0 ≤ n) (ht : t ≤ b * 8000000000) :
    fillF t r b n = if t + r * n ≥ b * 8000000000 then b * 8000000000 else t + r * n := by
  have h0 : 0 ≤ r * n := Int.mul_nonneg hr hn
  unfold fillF
  split
  · rename_i h1
    rcases h1 with rfl | h1
    · rw [Int.zero_mul]; split <;> omega
    · split <;> omega
  · rename_i h1
    split
    · rename_i h2
      have h3 : (b * 8000000000 - t) / r + 1 ≤ n := by omega
      have h4 := Int.mul_le_mul_of_nonneg_left h3 hr
      have h5 := Int.lt_ediv_add_one_mul_self (b * 8000000000 - t) (b := r) (by omega)
      have h6 : ((b * 8000000000 - t) / r + 1) * r = r * ((b * 8000000000 - t) / r + 1) := Int.mul_comm _ _
      rw [if_pos (by omega)]
    · rename_i h2
      have h4 : n * r ≤ b * 8000000000 - t := by
        have := Int.mul_le_mul_of_nonneg_right (show n ≤ (b * 8000000000 - t) / r by omega) hr
        have h5 := Int.ediv_mul_le (b * 8000000000 - t) (b := r) (by omega)
        omega
      have h6 : n * r = r * n := Int.mul_comm _ _
      split <;> omega

theorem bucket_secs {rate most n secs : Int} (hr : 0 ≤ rate) (hr2 : rate ≤ 10000000000) (hm : 0 ≤ most) (_ : most ≤ 8388608) (hn : 0 ≤ n) (hn2 : n ≤ 1125899906842624)
    (hs : secs = n / 1000000000 ∨ (0 < rate ∧ n / 1000000000 > most / rate + 1 ∧ secs = most / rate + 1)) :
    0 ≤ secs ∧ secs ≤ 1125900 ∧ 0 ≤ secs * rate ∧ secs * rate ≤ 11259000000000000 ∧
    (secs = n / 1000000000 ∨ (most ≤ secs * rate ∧ most * 1000000000 ≤ rate * n)) := by
  rcases hs with rfl | ⟨h1, h2, rfl⟩
  · have a0 : 0 ≤ n / 1000000000 := by omega
    have a1 : n / 1000000000 ≤ 1125900 := by omega
    refine ⟨a0, a1, Int.mul_nonneg a0 hr, ?_, .inl rfl⟩
    exact Int.mul_le_mul a1 hr2 hr (by omega)
  · have a0 : 0 ≤ most / rate := Int.ediv_nonneg hm hr
    have a1 : most / rate + 1 ≤ 1125900 := by omega
    have h5 := Int.lt_ediv_add_one_mul_self most (b := rate) h1
    have h6 : (most / rate + 1) * 1000000000 ≤ n := by omega
    have h7 := Int.mul_le_mul_of_nonneg_left h6 hr
    have h8 : rate * ((most / rate + 1) * 1000000000) = (most / rate + 1) * rate * 1000000000 := by
      rw [← Int.mul_assoc, Int.mul_comm rate]
    have h9 := Int.mul_le_mul a1 hr2 hr (by omega)
    refine ⟨by omega, a1, Int.mul_nonneg (by omega) hr, h9, .inr ⟨by omega, by omega⟩⟩

/-- What stands in a bucket after a time. -/
theorem bucket_sum {bits parts rate most n secs : Int} (hb : 0 ≤ bits) (hbm : bits ≤ most) (hp : 0 ≤ parts) (hp2 : parts < 1000000000) (hr : 0 ≤ rate) (_ : most ≤ 8388608) (_ : 0 ≤ n)
    (_ : 0 ≤ secs * rate) (hs' : secs = n / 1000000000 ∨ (most ≤ secs * rate ∧ most * 1000000000 ≤ rate * n))
    {high low rest b1 p1 b2 p2 x b3 p3 b4 p4 : Int} (hhigh : high = rate / 1000) (hlow : low = rate % 1000) (hrest : rest = n % 1000000000)
    (e1 : b1 = bits + secs * rate) (e2 : p1 = parts + low * rest) (e3 : b2 = b1 + p1 / 1000000000) (e4 : p2 = p1 % 1000000000) (ex : x = high * rest)
    (e5 : b3 = b2 + x / 1000000) (e6 : p3 = p2 + x % 1000000 * 1000) (e7 : b4 = b3 + p3 / 1000000000) (e8 : p4 = p3 % 1000000000) :
    (if b4 ≥ most then most * 1000000000 else b4 * 1000000000 + p4) = (if bits * 1000000000 + parts + rate * n ≥ most * 1000000000 then most * 1000000000 else bits * 1000000000 + parts + rate * n) := by
  have hx0 : 0 ≤ low * rest := Int.mul_nonneg (by omega) (by omega)
  have hy0 : 0 ≤ high * rest := Int.mul_nonneg (by omega) (by omega)
  have hU : b4 * 1000000000 + p4 = bits * 1000000000 + parts + secs * rate * 1000000000 + rate * rest := by
    have : rate * rest = 1000 * (high * rest) + low * rest := by
      have ea : rate = 1000 * high + low := by omega
      conv => lhs; rw [ea]
      rw [Int.add_mul, Int.mul_assoc]
    rw [this, ← ex]
    generalize low * rest = y at *
    generalize secs * rate = z at *
    omega
  have hrr : 0 ≤ rate * rest := Int.mul_nonneg hr (by omega)
  rcases hs' with hs' | ⟨h1, h2⟩
  · have : secs * rate * 1000000000 + rate * rest = rate * n := by
      have ea : n = 1000000000 * secs + rest := by omega
      conv => rhs; rw [ea]
      rw [Int.mul_add, Int.mul_left_comm, Int.mul_comm rate secs]
      omega
    have hU' : b4 * 1000000000 + p4 = bits * 1000000000 + parts + rate * n := by omega
    have : 0 ≤ p4 ∧ p4 < 1000000000 := by omega
    by_cases h : b4 ≥ most
    · rw [if_pos h, if_pos (by omega)]
    · rw [if_neg h, if_neg (by omega)]; omega
  · have : 0 ≤ p4 ∧ p4 < 1000000000 := by omega
    rw [if_pos (by omega), if_pos (by omega)]

theorem take_call (bits parts rate most need : Int) (g : Nat) (T : TypeId) (h : Heap) (hb : 0 ≤ bits) (hb2 : bits ≤ 8388608) (hn : 0 ≤ need)
    (hg : h[g]? = some (.cells #[.int .i64 bits, .int .i64 parts, .int .i64 rate, .int .i64 most] T (0, 0))) :
   CallK Try.prog 22 #[.pointer (some ⟨g, 0, none⟩), .int .i64 need] h fun v h' => v = .bool (!decide (bits < need)) ∧ Keep (· = g) h h' ∧
     h'[g]? = some (.cells #[.int .i64 (if bits < need then bits else bits - need), .int .i64 parts, .int .i64 rate, .int .i64 most] T (0, 0)) := by
  refine CallK.of_vc EE_ok [0, 1, 4, 10] Try.func22 rfl (Nat.le_of_ble_eq_true rfl) ?_
  conv => whnf
  refine LdK.lit hg rfl ?_
  conv => whnf
  refine iteD (fun t => ?_) (fun t => ?_)
  · conv => whnf
    refine ⟨?_, Keep.refl _ _, ?_⟩
    · rw [tup_one]; simp [t]
    · rw [if_pos t]; exact hg
  · conv => whnf
    refine LdK.lit hg rfl ?_
    conv => whnf
    refine StK.lit hg rfl rfl rfl rfl fun h2 hu2 => ?_
    conv => whnf
    refine ⟨?_, (Keep.refl _ _).updS hu2 (.inr rfl), ?_⟩
    · rw [tup_one]; simp [t]
    · rw [if_neg t, ← wrap64_id (n := bits - need) (by omega) (by omega)]; exact hu2.get

theorem bucket_call (bits parts rate most n : Int) (g : Nat) (T : TypeId) (h : Heap) (hb : 0 ≤ bits) (hbm : bits ≤ most) (hp : 0 ≤ parts) (hp2 : parts < 1000000000) (hr : 0 ≤ rate) (hr2 : rate ≤ 10000000000)
    (hm : 0 ≤ most) (hm2 : most ≤ 8388608) (hn : 0 ≤ n) (hn2 : n ≤ 1125899906842624)
    (hg : h[g]? = some (.cells #[.int .i64 bits, .int .i64 parts, .int .i64 rate, .int .i64 most] T (0, 0))) :
   CallK Try.prog 21 #[.pointer (some ⟨g, 0, none⟩), .int .i64 n] h fun v h' => v = .tuple #[] ∧ Keep (· = g) h h' ∧
     ∃ b p, h'[g]? = some (.cells #[.int .i64 b, .int .i64 p, .int .i64 rate, .int .i64 most] T (0, 0)) ∧ 0 ≤ b ∧ b ≤ most ∧ 0 ≤ p ∧ p < 1000000000 ∧
       b * 1000000000 + p = (if bits * 1000000000 + parts + rate * n ≥ most * 1000000000 then most * 1000000000 else bits * 1000000000 + parts + rate * n) := by
  refine CallK.of_vc EE_ok [0, 1, 4, 5, 6, 7, 30, 143] Try.func21 rfl (Nat.le_of_ble_eq_true rfl) ?_
  have q1 : n.tdiv 1000000000 = n / 1000000000 := Int.tdiv_eq_ediv_of_nonneg hn
  have q2 : n.tmod 1000000000 = n % 1000000000 := Int.tmod_eq_emod_of_nonneg hn
  conv => whnf
  rw [q1, q2, wrap64_id (n := n / 1000000000) (by omega) (by omega)]
  refine Drawn.mk (by kernel_rfl) ?_
  conv => whnf
  refine LdK.lit hg rfl ?_
  conv => whnf
  refine iteD (fun t => ?A) (fun t => ?B)
  case' A =>
    have d0 : 0 ≤ most / rate := Int.ediv_nonneg hm (by omega)
    have d1 : most / rate ≤ most := Int.ediv_le_self _ hm
    have w0 : IntKind.i64.wrap (IntKind.i64.wrap (most.tdiv rate) + 1) = most / rate + 1 := by
      rw [Int.tdiv_eq_ediv_of_nonneg hm, wrap64_id (n := most / rate) (by omega) (by omega), wrap64_id (by omega) (by omega)]
    conv => whnf
    refine LdK.lit hg rfl ?_
    conv => whnf
    refine LdK.lit hg rfl ?_
    conv => whnf
    refine cnd_intro (by simp; omega) ?_
    conv => whnf
    rw [w0]
    refine iteD (fun u => ?C) (fun u => ?D)
    case' C =>
      conv => whnf
      refine Drawn.mk (by kernel_rfl) ?_
      conv => whnf
      refine LdK.lit hg rfl ?_
      conv => whnf
      refine LdK.lit hg rfl ?_
      conv => whnf
      refine cnd_intro (by simp; omega) ?_
      conv => whnf
      rw [w0]
      have hs := bucket_secs hr hr2 hm hm2 hn hn2 (secs := most / rate + 1) (.inr ⟨t, u, rfl⟩)
      generalize most / rate + 1 = secs at *
    case' D =>
      have hs := bucket_secs hr hr2 hm hm2 hn hn2 (secs := n / 1000000000) (.inl rfl)
      conv => whnf
      generalize hsq : n / 1000000000 = secs at *
  case' B =>
    have hs := bucket_secs hr hr2 hm hm2 hn hn2 (secs := n / 1000000000) (.inl rfl)
    conv => whnf
    generalize hsq : n / 1000000000 = secs at *
  all_goals
    obtain ⟨s0, s1, s2, s3, s4⟩ := hs
    have s5 : secs = n / 1000000000 ∨ (most ≤ secs * rate ∧ most * 1000000000 ≤ rate * n) := by
      rcases s4 with h | h
      · exact .inl (by omega)
      · exact .inr h
    have w1 : IntKind.i64.wrap (bits + IntKind.i64.wrap (secs * rate)) = bits + secs * rate := by generalize secs * rate = z at *; rw [wrap64_id (n := z) (by omega) (by omega), wrap64_id (by omega) (by omega)]
    refine Drawn.mk (by kernel_rfl) ?_
    conv => whnf
    refine LdK.lit hg rfl ?_
    conv => whnf
    refine LdK.lit hg rfl ?_
    conv => whnf
    rw [w1]
    obtain ⟨b1, hb1⟩ : ∃ x, x = bits + secs * rate := ⟨_, rfl⟩
    rw [← hb1]
    refine StK.lit hg rfl rfl rfl rfl fun h1 hu1 => ?_
    have k1 := (Keep.refl (· = g) h).updS hu1 (.inr rfl)
    have g1 := hu1.get
    conv => whnf
    refine Drawn.mk (by kernel_rfl) ?_
    conv => whnf
    refine LdK.lit g1 rfl ?_
    conv => whnf
    refine LdK.lit g1 rfl ?_
    conv => whnf
    have w2 : IntKind.i64.wrap (rate.tdiv 1000) = rate / 1000 := by rw [Int.tdiv_eq_ediv_of_nonneg hr]; exact wrap64_id (by omega) (by omega)
    have w3 : rate.tmod 1000 = rate % 1000 := Int.tmod_eq_emod_of_nonneg hr
    rw [w2, w3]
    obtain ⟨high, hhigh⟩ : ∃ x, x = rate / 1000 := ⟨_, rfl⟩
    obtain ⟨low, hlow⟩ : ∃ x, x = rate % 1000 := ⟨_, rfl⟩
    obtain ⟨rest, hrest⟩ : ∃ x, x = n % 1000000000 := ⟨_, rfl⟩
    rw [← hhigh, ← hlow, ← hrest]
    have m0 : 0 ≤ low * rest := Int.mul_nonneg (by omega) (by omega)
    have m1 : low * rest ≤ 1000 * 1000000000 := Int.mul_le_mul (by omega) (by omega) (by omega) (by omega)
    have m2 : 0 ≤ high * rest := Int.mul_nonneg (by omega) (by omega)
    have m3 : high * rest ≤ 10000000 * 1000000000 := Int.mul_le_mul (by omega) (by omega) (by omega) (by omega)
    refine LdK.lit g1 rfl ?_
    conv => whnf
    have w4 : IntKind.i64.wrap (parts + IntKind.i64.wrap (low * rest)) = parts + low * rest := by
      generalize low * rest = y at *; rw [wrap64_id (n := y) (by omega) (by omega), wrap64_id (by omega) (by omega)]
    rw [w4]
    obtain ⟨p1, hp1⟩ : ∃ x, x = parts + low * rest := ⟨_, rfl⟩
    rw [← hp1]
    refine StK.lit g1 rfl rfl rfl rfl fun h2 hu2 => ?_
    have k2 := k1.updS hu2 (.inr rfl)
    have g2 := hu2.get
    conv => whnf
    refine Drawn.mk (by kernel_rfl) ?_
    conv => whnf
    refine LdK.lit g2 rfl ?_
    conv => whnf
    refine LdK.lit g2 rfl ?_
    conv => whnf
    have c1 : 0 ≤ p1 ∧ p1 ≤ 2000000000000 := by omega
    have c2 : 0 ≤ b1 ∧ b1 ≤ 11260000000000000 := by omega
    have w5 : IntKind.i64.wrap (b1 + IntKind.i64.wrap (p1.tdiv 1000000000)) = b1 + p1 / 1000000000 := by
      rw [Int.tdiv_eq_ediv_of_nonneg c1.1, wrap64_id (n := p1 / 1000000000) (by omega) (by omega), wrap64_id (by omega) (by omega)]
    rw [w5]
    obtain ⟨b2, hb2⟩ : ∃ x, x = b1 + p1 / 1000000000 := ⟨_, rfl⟩
    rw [← hb2]
    refine StK.lit g2 rfl rfl rfl rfl fun h3 hu3 => ?_
    have k3 := k2.updS hu3 (.inr rfl)
    have g3 := hu3.get
    conv => whnf
    refine LdK.lit g3 rfl ?_
    conv => whnf
    have w6 : p1.tmod 1000000000 = p1 % 1000000000 := Int.tmod_eq_emod_of_nonneg c1.1
    rw [w6]
    obtain ⟨p2, hp2'⟩ : ∃ x, x = p1 % 1000000000 := ⟨_, rfl⟩
    rw [← hp2']
    refine StK.lit g3 rfl rfl rfl rfl fun h4 hu4 => ?_
    have k4 := k3.updS hu4 (.inr rfl)
    have g4 := hu4.get
    conv => whnf
    refine LdK.lit g4 rfl ?_
    conv => whnf
    obtain ⟨y, hy⟩ : ∃ x, x = high * rest := ⟨_, rfl⟩
    have w7 : IntKind.i64.wrap (high * rest) = y := by rw [← hy]; exact wrap64_id (by omega) (by omega)
    rw [w7]
    have c3 : 0 ≤ y ∧ y ≤ 10000000000000000 := by omega
    have w8 : IntKind.i64.wrap (b2 + IntKind.i64.wrap (y.tdiv 1000000)) = b2 + y / 1000000 := by
      rw [Int.tdiv_eq_ediv_of_nonneg c3.1, wrap64_id (n := y / 1000000) (by omega) (by omega), wrap64_id (by omega) (by omega)]
    rw [w8]
    obtain ⟨b3, hb3⟩ : ∃ x, x = b2 + y / 1000000 := ⟨_, rfl⟩
    rw [← hb3]
    refine StK.lit g4 rfl rfl rfl rfl fun h5 hu5 => ?_
    have k5 := k4.updS hu5 (.inr rfl)
    have g5 := hu5.get
    conv => whnf
    refine LdK.lit g5 rfl ?_
    conv => whnf
    have w9 : IntKind.i64.wrap (p2 + IntKind.i64.wrap (y.tmod 1000000 * 1000)) = p2 + y % 1000000 * 1000 := by
      rw [Int.tmod_eq_emod_of_nonneg c3.1, wrap64_id (n := y % 1000000 * 1000) (by omega) (by omega), wrap64_id (by omega) (by omega)]
    rw [w7, w9]
    obtain ⟨p3, hp3⟩ : ∃ x, x = p2 + y % 1000000 * 1000 := ⟨_, rfl⟩
    rw [← hp3]
    refine StK.lit g5 rfl rfl rfl rfl fun h6 hu6 => ?_
    have k6 := k5.updS hu6 (.inr rfl)
    have g6 := hu6.get
    conv => whnf
    refine Drawn.mk (by kernel_rfl) ?_
    conv => whnf
    refine LdK.lit g6 rfl ?_
    conv => whnf
    refine LdK.lit g6 rfl ?_
    conv => whnf
    have c4 : 0 ≤ p3 := by omega
    have w10 : IntKind.i64.wrap (b3 + IntKind.i64.wrap (p3.tdiv 1000000000)) = b3 + p3 / 1000000000 := by
      rw [Int.tdiv_eq_ediv_of_nonneg c4, wrap64_id (n := p3 / 1000000000) (by omega) (by omega), wrap64_id (by omega) (by omega)]
    rw [w10]
    obtain ⟨b4, hb4⟩ : ∃ x, x = b3 + p3 / 1000000000 := ⟨_, rfl⟩
    rw [← hb4]
    refine StK.lit g6 rfl rfl rfl rfl fun h7 hu7 => ?_
    have k7 := k6.updS hu7 (.inr rfl)
    have g7 := hu7.get
    conv => whnf
    refine LdK.lit g7 rfl ?_
    conv => whnf
    have w11 : p3.tmod 1000000000 = p3 % 1000000000 := Int.tmod_eq_emod_of_nonneg c4
    rw [w11]
    obtain ⟨p4, hp4⟩ : ∃ x, x = p3 % 1000000000 := ⟨_, rfl⟩
    rw [← hp4]
    refine StK.lit g7 rfl rfl rfl rfl fun h8 hu8 => ?_
    have k8 := k7.updS hu8 (.inr rfl)
    have g8 := hu8.get
    have hsum := bucket_sum (most := most) hb hbm hp hp2 hr hm2 hn s2 s5 hhigh hlow hrest hb1 hp1 hb2 hp2' hy hb3 hp3 hb4 hp4
    conv => whnf
    refine Drawn.mk (by kernel_rfl) ?_
    conv => whnf
    refine LdK.lit g8 rfl ?_
    conv => whnf
    refine LdK.lit g8 rfl ?_
    conv => whnf
    refine iteD (fun u => ?_) (fun u => ?_)
    · conv => whnf
      refine LdK.lit g8 rfl ?_
      conv => whnf
      refine StK.lit g8 rfl rfl rfl rfl fun h9 hu9 => ?_
      conv => whnf
      refine StK.lit hu9.get rfl rfl rfl rfl fun h10 hu10 => ?_
      rw [if_pos u] at hsum
      conv => whnf
      exact ⟨rfl, (k8.updS hu9 (.inr rfl)).updS hu10 (.inr rfl), most, 0, hu10.get, by omega, by omega, by omega, by omega, by omega⟩
    · rw [if_neg u] at hsum
      conv => whnf
      exact ⟨rfl, k8, b4, p4, g8, by omega, by omega, by omega, by omega, hsum⟩

structure MI (n : Nat) (c0 c1 c2 c3 : Int) (i : Int) (s : MS) (now gb gp yb yp : Int) : Prop where
  i0 : 0 ≤ i
  i1 : i ≤ n
  ok : s.Ok
  e0 : s.c0 = c0
  e1 : s.c1 = c1
  e2 : s.c2 = c2
  e3 : s.c3 = c3
  k0 : s.k0 ≤ i
  k1 : s.k1 ≤ i
  k2 : s.k2 ≤ i
  now0 : 0 ≤ now
  now1 : now ≤ i * 1125899906842624
  last : s.last = now
  gp0 : 0 ≤ gp ∧ gp < 1000000000
  yp0 : 0 ≤ yp ∧ yp < 1000000000
  gs : gb * 1000000000 + gp = s.t0
  ys : yb * 1000000000 + yp = s.t1

def topF (t most : Int) : Int := if t ≥ most * 1000000000 then most * 1000000000 else t

theorem MS.pass_top {s : MS} (hs : s.Ok) {d : Int} (hd : 0 ≤ d) :
    (s.pass (s.last + d)).t0 = topF (s.t0 + s.c0 * d) (s.c1 * 8) ∧ (s.pass (s.last + d)).t1 = topF (s.t1 + s.c2 * d) (s.c3 * 8) ∧ (s.pass (s.last + d)).last = s.last + d := by
  unfold MS.pass topF
  have e0 := hs.t0
  have e1 := hs.t1
  split
  · have : d = 0 := by omega
    subst this
    rw [Int.mul_zero, Int.mul_zero]
    refine ⟨?_, ?_, by omega⟩
    · split <;> omega
    · split <;> omega
  · rw [show s.last + d - s.last = d by omega]
    refine ⟨?_, ?_, rfl⟩
    · show fillF s.t0 s.c0 s.c1 d = _
      rw [fillF_min hs.c0.1 hd e0.2]
      split <;> split <;> omega
    · show fillF s.t1 s.c2 s.c3 d = _
      rw [fillF_min hs.c2.1 hd e1.2]
      split <;> split <;> omega

theorem MI.next {n : Nat} {c0 c1 c2 c3 i : Int} {s : MS} {now gb gp yb yp : Int} (hi : MI n c0 c1 c2 c3 i s now gb gp yb yp) (hlt : i < n) (hn : (n : Int) ≤ 100) {d y : Int} (hd : 0 ≤ d) (hd2 : d ≤ 1125899906842624)
    (hy : -1 ≤ y) (hy2 : y ≤ 2097152) {gb' gp' yb' yp' need : Int} (hgp : 0 ≤ gp' ∧ gp' < 1000000000) (hyp : 0 ≤ yp' ∧ yp' < 1000000000)
    (hg : gb' * 1000000000 + gp' = topF (gb * 1000000000 + gp + c0 * d) (c1 * 8)) (hyb : yb' * 1000000000 + yp' = topF (yb * 1000000000 + yp + c2 * d) (c3 * 8)) (hneed : need = 8 * (if 0 > y then 0 else y)) :
    (¬ gb' < need → ∃ s', s.mark y (now + d) = (s', 0) ∧ MI n c0 c1 c2 c3 (i + 1) s' (now + d) (gb' - need) gp' yb' yp' ∧ s'.k0 = s.k0 + 1 ∧ s'.k1 = s.k1 ∧ s'.k2 = s.k2) ∧
    (gb' < need → ¬ yb' < need → ∃ s', s.mark y (now + d) = (s', 1) ∧ MI n c0 c1 c2 c3 (i + 1) s' (now + d) gb' gp' (yb' - need) yp' ∧ s'.k0 = s.k0 ∧ s'.k1 = s.k1 + 1 ∧ s'.k2 = s.k2) ∧
    (gb' < need → yb' < need → ∃ s', s.mark y (now + d) = (s', 2) ∧ MI n c0 c1 c2 c3 (i + 1) s' (now + d) gb' gp' yb' yp' ∧ s'.k0 = s.k0 ∧ s'.k1 = s.k1 ∧ s'.k2 = s.k2 + 1) := by
  obtain ⟨i0, i1, ho, rfl, rfl, rfl, rfl, q0, q1, q2, n0, n1, rfl, g0, y0, gs, ys⟩ := hi
  obtain ⟨p0, p1, p2⟩ := MS.pass_top ho hd
  have ho' := ho.mark y (s.last + d) (by omega) (by omega) (by omega)
  obtain ⟨f0, f1, f2, f3, f4, f5, f6⟩ := s.pass_fixed (s.last + d)
  have hnd : needF y = need * 1000000000 := by
    unfold needF; rw [hneed]; split <;> split <;> omega
  rw [gs, ← p0] at hg
  rw [ys, ← p1] at hyb
  revert ho'
  unfold MS.mark
  rw [hnd]
  generalize s.pass (s.last + d) = s1 at *
  simp only
  intro ho'
  refine ⟨fun t => ?_, fun t u => ?_, fun t u => ?_⟩
  · rw [if_pos (by omega)] at ho' ⊢
    exact ⟨_, rfl, ⟨by omega, by omega, ho', f0, f1, f2, f3, by show s1.k0 + 1 ≤ _; omega, by show s1.k1 ≤ _; omega, by show s1.k2 ≤ _; omega, by omega, by omega, p2, hgp, hyp, by show _ = s1.t0 - _; omega, by show _ = s1.t1; omega⟩, by show s1.k0 + 1 = _; omega, f5, f6⟩
  · rw [if_neg (by omega), if_pos (by omega)] at ho' ⊢
    exact ⟨_, rfl, ⟨by omega, by omega, ho', f0, f1, f2, f3, by show s1.k0 ≤ _; omega, by show s1.k1 + 1 ≤ _; omega, by show s1.k2 ≤ _; omega, by omega, by omega, p2, hgp, hyp, by show _ = s1.t0; omega, by show _ = s1.t1 - _; omega⟩, f4, by show s1.k1 + 1 = _; omega, f6⟩
  · rw [if_neg (by omega), if_neg (by omega)] at ho' ⊢
    exact ⟨_, rfl, ⟨by omega, by omega, ho', f0, f1, f2, f3, by show s1.k0 ≤ _; omega, by show s1.k1 ≤ _; omega, by show s1.k2 + 1 ≤ _; omega, by omega, by omega, p2, hgp, hyp, by show _ = s1.t0; omega, by show _ = s1.t1; omega⟩, f4, f5, by show s1.k2 + 1 = _; omega⟩

theorem MI.start {n : Nat} {c0 c1 c2 c3 : Int} (o0 : (MS.fresh c0 c1 c2 c3).Ok) : MI n c0 c1 c2 c3 0 (MS.fresh c0 c1 c2 c3) 0 (c1 * 8) 0 (c3 * 8) 0 := by
  refine ⟨by omega, by omega, o0, rfl, rfl, rfl, rfl, Int.le_refl 0, Int.le_refl 0, Int.le_refl 0, Int.le_refl 0, by omega, rfl, by omega, by omega, ?_, ?_⟩
  · show c1 * 8 * 1000000000 + 0 = c1 * 8000000000; omega
  · show c3 * 8 * 1000000000 + 0 = c3 * 8000000000; omega

theorem MI.pass {n : Nat} {c0 c1 c2 c3 i : Int} {s : MS} {now gb gp yb yp : Int} (hi : MI n c0 c1 c2 c3 i s now gb gp yb yp) : s.pass now = s := by
  unfold MS.pass; rw [if_pos (by have := hi.last; omega)]

theorem MI.lev {n : Nat} {c0 c1 c2 c3 i : Int} {s : MS} {now gb gp yb yp : Int} (hi : MI n c0 c1 c2 c3 i s now gb gp yb yp) : IntKind.i64.wrap (gb.tdiv 8) = s.t0 / 8000000000 ∧ IntKind.i64.wrap (yb.tdiv 8) = s.t1 / 8000000000 := by
  have a0 := hi.ok.t0
  have a1 := hi.ok.t1
  have b0 := hi.ok.c1
  have b1 := hi.ok.c3
  have g0 := hi.gp0
  have y0 := hi.yp0
  have g1 := hi.gs
  have y1 := hi.ys
  rw [Int.tdiv_eq_ediv_of_nonneg (by omega), Int.tdiv_eq_ediv_of_nonneg (by omega), wrap64_id (by omega) (by omega), wrap64_id (by omega) (by omega)]
  omega

theorem law_MeterMarks (v0 v1 : Value) (h : Heap) (a0 : Arg EE h 23 v0) (a1 : Arg EE h 24 v1) :
    CallK Try.prog 3 #[v0, v1] h fun v h' => v = .bool true ∧ Keep (fun _ => False) h h' := by
  obtain ⟨c0, c1, c2, c3, rfl⟩ := arg_cfg a0
  obtain ⟨A, n, cap, L, rfl, hn1, hlen, hL⟩ := arg_pairs a1
  rw [maxLen_eq] at hn1
  refine CallK.of_vc EE_ok [0, 1, 2, 4, 5, 6, 7, 8, 9, 10, 12, 13, 14, 15, 16, 17, 18, 20, 23, 31, 39, 58, 59, 60, 61, 83, 85, 96, 114] Try.func3 rfl (Nat.le_of_ble_eq_true rfl) ?_
  conv => whnf
  intro b h1 hn
  conv => whnf
  refine CallK.mono (marks_call h1) ?_
  rintro _ h2 ⟨rfl, hk2⟩
  have hb := hk2.get hn.get (fun x => x)
  have k2 : Keep (fun _ => False) h h2 := ((Keep.refl _ h).new hn).and hk2
  conv => whnf
  refine iteD (fun t1 => ⟨rfl, k2⟩) (fun t1 => ?_)
  have hn100 : (n : Int) ≤ 100 := by omega
  conv => whnf
  refine LdK.lit hb rfl ?_
  conv => whnf
  by_cases hc : CfgOk c0 c1 c2 c3
  case neg =>
    refine CallK.mono (new_bad_call c0 c1 c2 c3 h2 hc) ?_
    rintro _ h3 ⟨rfl, hk3⟩
    have k3 := k2.and hk3
    have hb3 := hk3.get hb (fun x => x)
    conv => whnf
    refine LdK.lit hb3 rfl ?_
    conv => whnf
    refine CallK.mono (check_call c0 c1 c2 c3 h3) ?_
    rintro _ h4 ⟨rfl, hk4⟩
    rw [if_neg hc]
    conv => whnf
    refine EqK.nil_nil EE_ok (e := 111) rfl rfl ?_
    conv => whnf
    exact ⟨rfl, k3.and hk4⟩
  refine CallK.mono (new_ok_call c0 c1 c2 c3 h2 hc) ?_
  rintro _ h4 ⟨g, T, rfl, hk4, hge, hg4⟩
  have k4 := k2.and hk4
  have hb4 := hk4.get hb (fun x => x)
  have hgs : h.size ≤ g := by have := k2.size; omega
  conv => whnf
  refine LdK.lit hb4 rfl ?_
  conv => whnf
  refine CallK.mono (check_call c0 c1 c2 c3 h4) ?_
  rintro _ h5 ⟨rfl, hk5⟩
  rw [if_pos hc]
  have k5 := k4.and hk5
  have hb5 := hk5.get hb4 (fun x => x)
  have hg5 := hk5.get hg4 (fun x => x)
  have o0 := MS.fresh_ok hc
  obtain ⟨c0r, c1r, c2r, c3r⟩ := id hc
  have wg : IntKind.i64.wrap (c1 * 8) = c1 * 8 := wrap64_id (by omega) (by omega)
  have wy : IntKind.i64.wrap (c3 * 8) = c3 * 8 := wrap64_id (by omega) (by omega)
  conv => whnf
  refine LdK.lit hb5 rfl ?_
  conv => whnf
  refine LdK.lit hb5 rfl ?_
  conv => whnf
  refine LdK.lit hb5 rfl ?_
  conv => whnf
  refine FillK.lit rfl ?_
  conv => whnf
  intro bg h6 hn6
  have k6 := k5.new hn6
  have hb6 := hn6.got hb5
  have hg6 := hn6.got hg5
  conv => whnf
  refine StK.lit hn6.get rfl rfl rfl rfl fun h7 hu7 => ?_
  have k7 := k6.updS hu7 (.inl (by have := hn6.at_; have := k5.size; omega))
  have hb7 := hu7.got hb6 (by have := hn6.at_; have := lt_of_get hb5; omega)
  have hg7 := hu7.got hg6 (by have := hn6.at_; have := lt_of_get hg5; omega)
  have hx7 := hu7.get
  conv => whnf
  refine LdK.lit hb7 rfl ?_
  conv => whnf
  refine LdK.lit hb7 rfl ?_
  conv => whnf
  refine LdK.lit hb7 rfl ?_
  conv => whnf
  refine FillK.lit rfl ?_
  conv => whnf
  intro by_ h8 hn8
  have k8 := k7.new hn8
  have hg8 := hn8.got hg7
  have hx8 := hn8.got hx7
  conv => whnf
  refine StK.lit hn8.get rfl rfl rfl rfl fun h9 hu9 => ?_
  have k9 := k8.updS hu9 (.inl (by have := hn8.at_; have := k7.size; omega))
  have hg9 := hu9.got hg8 (by have := hn8.at_; have := lt_of_get hg7; omega)
  have hx9 := hu9.got hx8 (by have := hn8.at_; have := lt_of_get hx7; omega)
  have hy9 := hu9.get
  conv => whnf
  intro bc h10 hn10
  have k10 := k9.new hn10
  have hg10 := hn10.got hg9
  have hx10 := hn10.got hx9
  have hy10 := hn10.got hy9
  have hc10 := hn10.get
  have k9_size := k9.size
  rw [wg] at hx10
  rw [wy] at hy10
  have hgh : h.size ≤ g := by have := k2.size; omega
  have hkg : ∀ k, k < h.size → ¬ k = g := by intro k hk; omega
  have hkx : ∀ k, k < h.size → ¬ k = bg := by intro k hk; have := hn6.at_; have := k5.size; omega
  have hky : ∀ k, k < h.size → ¬ k = by_ := by intro k hk; have := hn8.at_; have := k7.size; omega
  have nxg : ¬ bg = g := by have := hn6.at_; have := lt_of_get hg5; omega
  have nyg : ¬ by_ = g := by have := hn8.at_; have := lt_of_get hg7; omega
  have nyx : ¬ by_ = bg := by have := hn8.at_; have := lt_of_get hx7; omega
  have ncg : ¬ bc = g := by have := hn10.at_; have := lt_of_get hg9; omega
  have ncx : ¬ bc = bg := by have := hn10.at_; have := lt_of_get hx9; omega
  have ncy : ¬ bc = by_ := by have := hn10.at_; have := lt_of_get hy9; omega
  conv => whnf
  refine ⟨Int × MS × Int × (Int × Int) × (Int × Int), [0, 1, 2, 5, 6, 7, 8, 10, 20, 23, 31, 39, 58, 59], fun x => [(60, .int .i64 x.1), (9, .int .i64 x.2.2.1)],
    fun x h' => MI n c0 c1 c2 c3 x.1 x.2.1 x.2.2.1 x.2.2.2.1.1 x.2.2.2.1.2 x.2.2.2.2.1 x.2.2.2.2.2 ∧ Keep (fun _ => False) h h' ∧ h'[g]? = some (.cells x.2.1.cells.toArray T (0, 0)) ∧
      h'[bg]? = some (.cells #[.int .i64 x.2.2.2.1.1, .int .i64 x.2.2.2.1.2, .int .i64 c0, .int .i64 (c1 * 8)] 32 (0, 0)) ∧
      h'[by_]? = some (.cells #[.int .i64 x.2.2.2.2.1, .int .i64 x.2.2.2.2.2, .int .i64 c2, .int .i64 (c3 * 8)] 32 (0, 0)) ∧
      h'[bc]? = some (.cells #[.int .i64 x.2.1.k0, .int .i64 x.2.1.k1, .int .i64 x.2.1.k2] 33 (0, 0)),
    fun x => ((n : Int) - x.1).toNat, ?_⟩
  conv => whnf
  refine ⟨⟨(0, MS.fresh c0 c1 c2 c3, 0, (c1 * 8, 0), (c3 * 8, 0)), ⟨rfl, rfl, trivial⟩, ⟨MI.start o0, k10, hg10, hx10, hy10, hc10⟩⟩, ?_⟩
  rintro ⟨i, s, now, ⟨gb, gp⟩, yb, yp⟩ h5 ⟨hB, k5, hg5, hx5, hy5, hc5⟩
  simp only at hg5 hx5 hy5 hc5 hB
  have i0 := hB.i0
  have i1 := hB.i1
  have ho := hB.ok
  have n0 := hB.now0
  have n1 := hB.now1
  conv => whnf
  refine iteD (fun t => ?_) (fun t => ?_)
  · have hi : i.toNat < n := by omega
    obtain ⟨x, hx⟩ : ∃ x, L[i.toNat]? = some x := ⟨_, List.getElem?_eq_getElem (by omega)⟩
    obtain ⟨hel, hx1, hx2⟩ := hL _ _ hx
    obtain ⟨sb, so, rfl⟩ := hel.some
    have hel5 := hel.keep k5
    conv => whnf
    refine cnd_intro (by simp; omega) ?_
    conv => whnf
    refine LdK.elem hel5 (y := ⟨.array 2 2, 2, 16, true, some (.agg #[.int .i64 0, .int .i64 0])⟩) rfl rfl (.inl rfl) ?_
    conv => whnf
    intro f h6 hn6
    conv => whnf
    refine StK.lit hn6.get rfl rfl rfl rfl fun h7 hu7 => ?_
    have k7 : Keep (fun _ => False) h h7 := (k5.new hn6).upd hu7 (by have := hn6.at_; have := k5.size; omega)
    have hfg : ¬ g = f := by have := hn6.at_; have := lt_of_get hg5; omega
    have hfx : ¬ bg = f := by have := hn6.at_; have := lt_of_get hx5; omega
    have hfy : ¬ by_ = f := by have := hn6.at_; have := lt_of_get hy5; omega
    have hfc : ¬ bc = f := by have := hn6.at_; have := lt_of_get hc5; omega
    have hg7 := hu7.got (hn6.got hg5) hfg
    have hx7 := hu7.got (hn6.got hx5) hfx
    have hy7 := hu7.got (hn6.got hy5) hfy
    have hc7 := hu7.got (hn6.got hc5) hfc
    have hf7 := hu7.get
    conv => whnf
    refine Drawn.mk (by kernel_rfl) ?_
    conv => whnf
    refine LdK.lit hf7 rfl ?_
    conv => whnf
    refine LdK.lit hf7 rfl ?_
    conv => whnf
    generalize hd : (if 1125899906842624 < (if 0 > x.1 then 0 else x.1) then 1125899906842624 else (if 0 > x.1 then 0 else x.1)) = d
    have hd0 : 0 ≤ d ∧ d ≤ 1125899906842624 := by rw [← hd]; split <;> split <;> omega
    generalize hy : (if 2097152 < (if -1 > x.2 then -1 else x.2) then 2097152 else (if -1 > x.2 then -1 else x.2)) = y
    have hy0 : -1 ≤ y ∧ y ≤ 2097152 := by rw [← hy]; split <;> split <;> omega
    have w1 : IntKind.i64.wrap (now + d) = now + d := wrap64_id (by omega) (by omega)
    have w3 : IntKind.i64.wrap (i + 1) = i + 1 := wrap64_id (by omega) (by omega)
    have hnd : IntKind.i64.wrap (8 * (if 0 > y then 0 else y)) = 8 * (if 0 > y then 0 else y) := by split <;> exact wrap64_id (by omega) (by omega)
    obtain ⟨need, hneed⟩ : ∃ z, z = 8 * (if 0 > y then 0 else y) := ⟨_, rfl⟩
    have hneed0 : 0 ≤ need := by rw [hneed]; split <;> omega
    have t00 := ho.t0
    have t01 := ho.t1
    have gp0 := hB.gp0
    have yp0 := hB.yp0
    have gs := hB.gs
    have ys := hB.ys
    have e1 := hB.e1
    have e3 := hB.e3
    refine CallK.mono (bucket_call gb gp c0 (c1 * 8) d bg _ h7 (by omega) (by omega) gp0.1 gp0.2 c0r.1 c0r.2 (by omega) (by omega) hd0.1 hd0.2 hx7) ?_
    rintro _ h8 ⟨rfl, hk8, gb', gp', hx8, b0, b1, b2, b3, hgb⟩
    have k8 := k7.after hk8 hkx
    have hg8 := hk8.get hg7 (fun h => nxg h.symm)
    have hy8 := hk8.get hy7 nyx
    have hc8 := hk8.get hc7 ncx
    conv => whnf
    refine CallK.mono (bucket_call yb yp c2 (c3 * 8) d by_ _ h8 (by omega) (by omega) yp0.1 yp0.2 c2r.1 c2r.2 (by omega) (by omega) hd0.1 hd0.2 hy8) ?_
    rintro _ h9 ⟨rfl, hk9, yb', yp', hy9, d0, d1, d2, d3, hyb⟩
    have k9 := k8.after hk9 hky
    have hg9 := hk9.get hg8 (fun h => nyg h.symm)
    have hx9 := hk9.get hx8 (fun h => nyx h.symm)
    have hc9 := hk9.get hc8 ncy
    obtain ⟨nx0, nx1, nx2⟩ := hB.next (by omega) hn100 hd0.1 hd0.2 hy0.1 hy0.2 ⟨b2, b3⟩ ⟨d2, d3⟩ hgb hyb hneed
    conv => whnf
    rw [hnd, ← hneed]
    refine CallK.mono (take_call gb' gp' c0 (c1 * 8) need bg _ h9 b0 (by omega) hneed0 hx9) ?_
    rintro _ h10 ⟨rfl, hk10, hx10⟩
    have k10 := k9.after hk10 hkx
    have hg10 := hk10.get hg9 (fun h => nxg h.symm)
    have hy10 := hk10.get hy9 nyx
    have hc10 := hk10.get hc9 ncx
    conv => whnf
    have wk0 : IntKind.i64.wrap (s.k0 + 1) = s.k0 + 1 := wrap64_id (by have := ho.k0; omega) (by have := ho.k0; omega)
    have wk1 : IntKind.i64.wrap (s.k1 + 1) = s.k1 + 1 := wrap64_id (by have := ho.k1; omega) (by have := ho.k1; omega)
    have wk2 : IntKind.i64.wrap (s.k2 + 1) = s.k2 + 1 := wrap64_id (by have := ho.k2; omega) (by have := ho.k2; omega)
    by_cases u1 : gb' < need
    case' neg =>
      obtain ⟨s', hm, hB', q0, q1, q2⟩ := nx0 u1
      rw [if_neg u1] at hx10
      rw [decide_eq_false u1]
      have kT := k10
      have hgT := hg10
      have hxT := hx10
      have hyT := hy10
      have hcT := hc10
      conv => whnf
    case' pos =>
      rw [if_pos u1] at hx10
      rw [decide_eq_true u1]
      conv => whnf
      refine CallK.mono (take_call yb' yp' c2 (c3 * 8) need by_ _ h10 d0 (by omega) hneed0 hy10) ?_
      rintro _ h11 ⟨rfl, hk11, hy11⟩
      have kT := k10.after hk11 hky
      have hgT := hk11.get hg10 (fun h => nyg h.symm)
      have hxT := hk11.get hx10 (fun h => nyx h.symm)
      have hcT := hk11.get hc10 ncy
      conv => whnf
      by_cases u2 : yb' < need
      case' neg =>
        obtain ⟨s', hm, hB', q0, q1, q2⟩ := nx1 u1 u2
        rw [if_neg u2] at hy11
        have hyT := hy11
        rw [decide_eq_false u2]
        conv => whnf
      case' pos =>
        obtain ⟨s', hm, hB', q0, q1, q2⟩ := nx2 u1 u2
        rw [if_pos u2] at hy11
        have hyT := hy11
        rw [decide_eq_true u2]
        conv => whnf
    all_goals
      refine LdK.lit hcT rfl ?_
      conv => whnf
      refine StK.lit hcT rfl rfl rfl rfl fun h12 hu12 => ?_
      have k12 := kT.upd hu12 (by have := hn10.at_; have := k9_size; omega)
      have hg12 := hu12.got hgT (fun h => ncg h.symm)
      have hx12 := hu12.got hxT (fun h => ncx h.symm)
      have hy12 := hu12.got hyT (fun h => ncy h.symm)
      have hc12 : h12[bc]? = some (.cells #[.int .i64 s'.k0, .int .i64 s'.k1, .int .i64 s'.k2] 33 (0, 0)) := by
        rw [q0, q1, q2]
        first
          | (rw [← wk0]; exact hu12.get)
          | (rw [← wk1]; exact hu12.get)
          | (rw [← wk2]; exact hu12.get)
      conv => whnf
      rw [w1]
      refine CallK.mono (mark_call s g T y (now + d) h12 ho (by omega) hg12) ?_
      rw [hm]
      rintro _ h13 ⟨rfl, hk13, hg13⟩
      have k13 := k12.after hk13 hkg
      have hx13 := hk13.get hx12 nxg
      have hy13 := hk13.get hy12 nyg
      have hc13 := hk13.get hc12 ncg
      have ho' := hB'.ok
      conv => whnf
      refine CallK.mono (level_call s' g T (now + d) h13 ho' (by omega) hg13) ?_
      rw [hB'.pass]
      rintro _ h14 ⟨rfl, hk14, hg14⟩
      have k14 := k13.after hk14 hkg
      have hx14 := hk14.get hx13 nxg
      have hy14 := hk14.get hy13 nyg
      have hc14 := hk14.get hc13 ncg
      obtain ⟨l0, l1⟩ := hB'.lev
      conv => whnf
      refine LdK.lit hx14 rfl ?_
      conv => whnf
      rw [l0]
      refine iteNF rfl ?_
      conv => whnf
      refine LdK.lit hy14 rfl ?_
      conv => whnf
      rw [l1]
      refine iteNF rfl ?_
      conv => whnf
      refine ⟨(i + 1, s', now + d, (_, _), (_, _)), ⟨?_, ?_, trivial⟩, ⟨rfl, rfl, rfl, rfl, rfl, rfl, rfl, rfl, rfl, rfl, rfl, rfl, rfl, rfl, trivial⟩, ⟨hB', k14, hg14, hx14, hy14, hc14⟩, ?_⟩
      · show Value.int .i64 _ = _; rw [w3]
      · rfl
      · show ((n : Int) - (i + 1)).toNat < ((n : Int) - i).toNat; omega
  · conv => whnf
    refine Drawn.two [(1, 2)] [0, 1, 2, 3, 4] [0, 2, 1, 3, 4] (by kernel_rfl) ?_ ?_
    · conv => whnf
      refine CallK.mono (counts_call s g T h5 hg5) ?_
      rintro _ h6 ⟨rfl, hk6⟩
      have hc6 := hk6.get hc5 (fun x => x)
      conv => whnf
      refine LdK.lit hc6 rfl ?_
      conv => whnf
      refine EqK.gen EE_ok rfl (by kernel_rfl) rfl rfl rfl ?_
      conv => whnf
      refine ⟨?_, k5.and hk6⟩
      simp [tup_one]
    · conv => whnf
      refine LdK.lit hc5 rfl ?_
      conv => whnf
      refine CallK.mono (counts_call s g T h5 hg5) ?_
      rintro _ h6 ⟨rfl, hk6⟩
      conv => whnf
      refine EqK.gen EE_ok rfl (by kernel_rfl) rfl rfl rfl ?_
      conv => whnf
      refine ⟨?_, k5.and hk6⟩
      simp [tup_one]

end Go.Proofs.Ytpcjdcpfbpdcfaa
