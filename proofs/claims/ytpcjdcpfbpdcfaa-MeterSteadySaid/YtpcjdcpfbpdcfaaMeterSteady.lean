import Derived.Test.YtpcjdcpfbpdcfaaMeterBack
namespace Go.Proofs.Ytpcjdcpfbpdcfaa
open Go.Vc
set_option maxRecDepth 10000

def eachF (rate bytes : Int) : Int := (bytes * 8000000000 + rate - 1) / rate

theorem each_bounds {rate bytes : Int} (hr : 8 ≤ rate) (hb : 1 ≤ bytes) (hb2 : bytes ≤ 1522) : 1 ≤ eachF rate bytes ∧ eachF rate bytes ≤ 2000000000000 ∧ bytes * 8000000000 ≤ rate * eachF rate bytes := by
  unfold eachF
  have h1 := Int.ediv_mul_le (bytes * 8000000000 + rate - 1) (b := rate) (by omega)
  have h2 := Int.lt_ediv_add_one_mul_self (bytes * 8000000000 + rate - 1) (b := rate) (by omega)
  generalize hq : (bytes * 8000000000 + rate - 1) / rate = q at *
  have h3 : (q + 1) * rate = q * rate + rate := by rw [Int.add_mul, Int.one_mul]
  have h4 : q * rate = rate * q := Int.mul_comm _ _
  have h5 : bytes * 8000000000 ≤ rate * q := by omega
  refine ⟨?_, ?_, h5⟩
  · rcases Int.lt_or_le q 1 with h | h
    · have : rate * q ≤ rate * 0 := Int.mul_le_mul_of_nonneg_left (by omega) (by omega)
      omega
    · exact h
  · rcases Int.lt_or_le 2000000000000 q with h | h
    · have h6 : 8 * q ≤ rate * q := Int.mul_le_mul_of_nonneg_right hr (by omega)
      have h7 : rate * 2000000000001 ≤ rate * q := Int.mul_le_mul_of_nonneg_left (by omega) (by omega)
      omega
    · exact h

theorem fill_full {rate bytes : Int} (hr : 8 ≤ rate) (hb : 1 ≤ bytes) (hb2 : bytes ≤ 1522) : fillF 0 rate bytes (eachF rate bytes) = bytes * 8000000000 := by
  obtain ⟨h1, h2, h3⟩ := each_bounds hr hb hb2
  unfold fillF
  rw [if_neg (by omega), Int.sub_zero]
  split
  · rfl
  · rename_i h4
    have h5 : eachF rate bytes ≤ bytes * 8000000000 / rate := by omega
    have h6 := Int.mul_le_mul_of_nonneg_right h5 (show 0 ≤ rate by omega)
    have h7 := Int.ediv_mul_le (bytes * 8000000000) (b := rate) (by omega)
    have h8 : eachF rate bytes * rate = rate * eachF rate bytes := Int.mul_comm _ _
    omega

/-- Ahead of a round. -/
def stS (rate bytes i : Int) : MS := ⟨rate, bytes, 0, 0, if i = 0 then bytes * 8000000000 else 0, 0, if i = 0 then 0 else (i - 1) * eachF rate bytes, i, 0, 0⟩

theorem needF_of {b : Int} (h0 : 0 ≤ b) (h1 : b ≤ 1522) : needF b = b * 8000000000 := by
  unfold needF
  rw [if_neg (show ¬ 0 > b by omega), if_neg (by omega)]

theorem stS_mark {rate bytes i : Int} (hr : 8 ≤ rate) (hb : 1 ≤ bytes) (hb2 : bytes ≤ 1522) (hi : 0 ≤ i) :
    (stS rate bytes i).mark bytes (i * eachF rate bytes) = (stS rate bytes (i + 1), 0) := by
  obtain ⟨h1, h2, h3⟩ := each_bounds hr hb hb2
  have hp : (stS rate bytes i).pass (i * eachF rate bytes) = ⟨rate, bytes, 0, 0, bytes * 8000000000, 0, i * eachF rate bytes, i, 0, 0⟩ := by
    unfold MS.pass stS
    by_cases h0 : i = 0
    · subst h0
      simp
    · have h4 : (i - 1) * eachF rate bytes = i * eachF rate bytes - eachF rate bytes := by rw [Int.sub_mul, Int.one_mul]
      simp only [if_neg h0, h4]
      rw [if_neg (by omega)]
      have h5 : i * eachF rate bytes - (i * eachF rate bytes - eachF rate bytes) = eachF rate bytes := by omega
      rw [h5, fill_full hr hb hb2]
      simp [fillF]
  unfold MS.mark
  rw [hp, needF_of (by omega) hb2]
  simp only [ge_iff_le, Int.le_refl, if_true, Int.sub_self]
  unfold stS
  rw [if_neg (show ¬ i + 1 = 0 by omega), if_neg (show ¬ i + 1 = 0 by omega)]
  have : i + 1 - 1 = i := by omega
  rw [this]

theorem stS_ok {rate bytes i : Int} (hr : 8 ≤ rate) (hr2 : rate ≤ 10000000000) (hb : 1 ≤ bytes) (hb2 : bytes ≤ 1522) (hi : 0 ≤ i) (hi2 : i ≤ 300) : (stS rate bytes i).Ok := by
  obtain ⟨h1, h2, h3⟩ := each_bounds hr hb hb2
  refine ⟨⟨?_, hr2⟩, ⟨?_, ?_⟩, ⟨Int.le_refl 0, ?_⟩, ⟨Int.le_refl 0, ?_⟩, ⟨?_, ?_⟩, ⟨Int.le_refl 0, ?_⟩, ?_, ⟨hi, ?_⟩, ⟨Int.le_refl 0, ?_⟩, ⟨Int.le_refl 0, ?_⟩⟩
  all_goals simp only [stS]
  all_goals first
    | omega
    | (split <;> omega)
    | skip
  split
  · omega
  · exact Int.mul_nonneg (by omega) (by omega)

theorem law_MeterSteady (v0 v1 v2 : Value) (h : Heap) (a0 : Arg EE h 2 v0) (a1 : Arg EE h 3 v1) (a2 : Arg EE h 3 v2) :
    CallK Try.prog 7 #[v0, v1, v2] h fun v h' => v = .bool true ∧ Keep (fun _ => False) h h' := by
  obtain ⟨rate, rfl, r1, r2⟩ := arg_i64 a0 rfl rfl rfl
  obtain ⟨bytes, rfl, b1, b2⟩ := arg_i64 a1 rfl rfl rfl
  obtain ⟨many, rfl, m1, m2⟩ := arg_i64 a2 rfl rfl rfl
  refine CallK.of_vc EE_ok [0, 1, 2, 6, 7, 8, 9, 10, 12, 34, 43, 52, 53, 54, 59] Try.func7 rfl (Nat.le_of_ble_eq_true rfl) ?_
  conv => whnf
  refine CallK.mono (marks_call h) ?_
  rintro _ h2 ⟨rfl, k2⟩
  conv => whnf
  refine iteD (fun t1 => ⟨rfl, k2⟩) (fun t1 => ?_)
  conv => whnf
  refine iteD (fun t2 => ⟨rfl, k2⟩) (fun t2 => ?_)
  conv => whnf
  refine iteD (fun t3 => ⟨rfl, k2⟩) (fun t3 => ?_)
  conv => whnf
  refine iteD (fun t4 => ⟨rfl, k2⟩) (fun t4 => ?_)
  conv => whnf
  refine iteD (fun t5 => ⟨rfl, k2⟩) (fun t5 => ?_)
  conv => whnf
  refine iteD (fun t6 => ⟨rfl, k2⟩) (fun t6 => ?_)
  conv => whnf
  refine FillK.lit rfl ?_
  conv => whnf
  refine CallK.mono (new_ok_call rate bytes 0 0 h2 (by unfold CfgOk; omega)) ?_
  rintro _ h4 ⟨g, T, rfl, hk4, hge, hg4⟩
  have k4 := k2.and hk4
  have hkg : ∀ k, k < h.size → ¬ k = g := by intro k hk; have := k2.size; omega
  obtain ⟨e1, e2, e3⟩ := each_bounds (rate := rate) (bytes := bytes) (by omega) (by omega) (by omega)
  have w1 : IntKind.i64.wrap (IntKind.i64.wrap (bytes * 8) * 1000000000) = bytes * 8000000000 := by
    rw [wrap64_id (n := bytes * 8) (by omega) (by omega), wrap64_id (by omega) (by omega)]; omega
  have w2 : IntKind.i64.wrap ((IntKind.i64.wrap (IntKind.i64.wrap (IntKind.i64.wrap (IntKind.i64.wrap (bytes * 8) * 1000000000) + rate) - 1)).tdiv rate) = eachF rate bytes := by
    rw [w1, wrap64_id (n := bytes * 8000000000 + rate) (by omega) (by omega), wrap64_id (n := bytes * 8000000000 + rate - 1) (by omega) (by omega), Int.tdiv_eq_ediv_of_nonneg (by omega)]
    exact wrap64_id (by show _ ≤ eachF rate bytes; omega) (by show eachF rate bytes ≤ _; omega)
  conv => whnf
  refine cnd_intro (by simp; omega) ?_
  conv => whnf
  rw [w2]
  refine ⟨Int, [0, 1, 2, 7, 9, 52], fun i => [(53, .int .i64 i), (10, .int .i64 (i * eachF rate bytes))], fun i h' => 0 ≤ i ∧ i ≤ many ∧ Keep (fun _ => False) h h' ∧ h'[g]? = some (.cells (stS rate bytes i).cells.toArray T (0, 0)), fun i => (many - i).toNat, ?_⟩
  conv => whnf
  refine ⟨⟨0, ⟨rfl, (by show Value.int .i64 (0:Int) = .int .i64 (0 * _); rw [Int.zero_mul]), trivial⟩, by omega, by omega, k4, ?_⟩, ?_⟩
  · rw [hg4]
    simp [stS]
  rintro i h5 ⟨i0, i1, k5, hg5⟩
  have hm := stS_mark (rate := rate) (bytes := bytes) (i := i) (by omega) (by omega) (by omega) i0
  have ho := stS_ok (rate := rate) (bytes := bytes) (i := i) (by omega) (by omega) (by omega) (by omega) i0 (by omega)
  conv => whnf
  refine iteD (fun t => ?_) (fun t => ?_)
  · conv => whnf
    have hmul : i * eachF rate bytes ≤ 300 * 2000000000000 := by
      have := Int.mul_le_mul (show i ≤ 300 by omega) e2 (by omega) (by omega)
      omega
    have hmul0 : 0 ≤ i * eachF rate bytes := Int.mul_nonneg i0 (by omega)
    refine CallK.mono (mark_call (stS rate bytes i) g T bytes _ h5 ho (by omega) hg5) ?_
    rintro _ h6 ⟨rfl, hk6, hg6⟩
    rw [hm] at hg6 ⊢
    conv => whnf
    refine ⟨i + 1, ⟨?_, ?_, trivial⟩, ⟨rfl, rfl, rfl, rfl, rfl, rfl, trivial⟩, ⟨by omega, by omega, k5.after hk6 hkg, hg6⟩, ?_⟩
    · show Value.int .i64 _ = _
      rw [wrap64_id (by omega) (by omega)]
    · show Value.int .i64 _ = _
      rw [wrap64_id (by omega) (by omega), Int.add_mul, Int.one_mul]
    · show (many - (i + 1)).toNat < (many - i).toNat
      omega
  · obtain rfl : i = many := by omega
    conv => whnf
    refine CallK.mono (counts_call _ g T h5 hg5) ?_
    rintro _ h6 ⟨rfl, hk6⟩
    conv => whnf
    refine FillK.lit rfl ?_
    conv => whnf
    refine EqK.gen EE_ok rfl (by kernel_rfl) rfl rfl rfl ?_
    conv => whnf
    refine ⟨?_, k5.and hk6⟩
    simp [tup_one, stS]

end Go.Proofs.Ytpcjdcpfbpdcfaa
