import Derived.Test.YtcjilkemfmhkgaaMac6
namespace Go.Proofs.Ytcjilkemfmhkgaa
open Go.Vc
set_option maxRecDepth 10000
set_option maxHeartbeats 4000000

/-! ### what is read of frames that are built -/

structure Hdr.Good (F : Hdr) : Prop where
  plain : F.plain = false
  p0 : 0 ≤ F.pcp
  p7 : F.pcp ≤ 7
  v0 : 0 ≤ F.vid
  v7 : F.vid ≤ 4094
  src : F.src.group = false
  t0 : 0 ≤ F.typ
  t7 : F.typ ≤ 65535
  tag : F.tagged = false → F.typ ≠ 33024

def Hdr.Fits (F : Hdr) (R : List UInt8) : Prop := (F.llc = true ∧ F.typ ≤ 1500 ∧ F.typ ≤ R.length) ∨ (F.llc = false ∧ 1536 ≤ F.typ)

theorem good_ok {F : Hdr} {n : Nat} (e : F.check n = 0) : F.Good := by
  obtain ⟨_, h1, hp, a, b, c, d, g, i, j, k⟩ := check_ok e
  refine ⟨hp, a, b, c, d, g, i, j, fun ht h => ?_⟩
  rcases k with ⟨_, k⟩ | ⟨_, _, k⟩
  · omega
  · rw [k h] at ht; cases ht

theorem fits_ok {F : Hdr} {R : List UInt8} (e : F.check R.length = 0) : F.Fits R := by
  obtain ⟨_, h1, _, _, _, _, _, _, _, _, k⟩ := check_ok e
  rcases k with ⟨a, k⟩ | ⟨a, k, _⟩
  · exact .inl ⟨a, by omega, by omega⟩
  · exact .inr ⟨a, k⟩

theorem u8_ofNat (n : Nat) : (UInt8.ofNat n).toNat = n % 256 := UInt8.toNat_ofNat'

theorem front_length (F : Hdr) : F.front.length = if F.tagged = true then 18 else 14 := by
  unfold Hdr.front Hdr.tagB
  split <;> simp [Mac6.list, beBytes_length]

theorem inside_front (F : Hdr) (R : List UInt8) (size : Nat) (hp : F.plain = false) (p0 : 0 ≤ F.pcp) (p7 : F.pcp ≤ 7) (v0 : 0 ≤ F.vid) (v7 : F.vid ≤ 4095) (t0 : 0 ≤ F.typ) (t7 : F.typ ≤ 65535) (ht : F.tagged = false → F.typ ≠ 33024) :
    insideF (F.front ++ R) size = if F.tagged = false ∧ size > 1518 then .error 3 else finF ⟨F.dst, F.src, F.tagged, F.pcp, F.dei, F.vid, F.typ, false⟩ R := by
  obtain ⟨⟨d0, d1, d2, d3, d4, d5⟩, ⟨s0, s1, s2, s3, s4, s5⟩, tagged, pcp, dei, vid, typ, llc⟩ := F
  obtain ⟨p, rfl⟩ := Int.eq_ofNat_of_zero_le p0
  obtain ⟨v, rfl⟩ := Int.eq_ofNat_of_zero_le v0
  obtain ⟨t, rfl⟩ := Int.eq_ofNat_of_zero_le t0
  dsimp only at *
  cases tagged
  · simp only [Hdr.plain, Bool.not_false, Bool.true_and, Bool.or_eq_false_iff, decide_eq_false_iff_not, Classical.not_not] at hp
    obtain ⟨⟨hp, rfl⟩, hv⟩ := hp
    have ht := ht rfl
    obtain rfl : p = 0 := by omega
    obtain rfl : v = 0 := by omega
    have e12 : be2 (Hdr.front ⟨⟨d0, d1, d2, d3, d4, d5⟩, ⟨s0, s1, s2, s3, s4, s5⟩, false, ((0 : Nat) : Int), false, ((0 : Nat) : Int), (t : Int), llc⟩ ++ R) 12 = t := by
      simp [Hdr.front, Mac6.list, beBytes, be2, beNum, u8_ofNat]
      omega
    unfold insideF
    rw [e12, if_neg (by omega)]
    simp only [true_and]
    rfl
  · obtain ⟨d, hd, hd2⟩ : ∃ d : Nat, d = dei.toNat ∧ d < 2 := ⟨dei.toNat, rfl, by cases dei <;> decide⟩
    have hdb : dei = decide (d = 1) := by subst hd; cases dei <;> rfl
    have e12 : be2 (Hdr.front ⟨⟨d0, d1, d2, d3, d4, d5⟩, ⟨s0, s1, s2, s3, s4, s5⟩, true, (p : Int), dei, (v : Int), (t : Int), llc⟩ ++ R) 12 = 33024 := by
      simp [Hdr.front, Mac6.list, beBytes, be2, beNum, u8_ofNat, Hdr.tagB, ← hd, tagN]
      omega
    have e14 : be2 (Hdr.front ⟨⟨d0, d1, d2, d3, d4, d5⟩, ⟨s0, s1, s2, s3, s4, s5⟩, true, (p : Int), dei, (v : Int), (t : Int), llc⟩ ++ R) 14 = p * 8192 + d * 4096 + v := by
      simp [Hdr.front, Mac6.list, beBytes, be2, beNum, u8_ofNat, Hdr.tagB, ← hd, tagN]
      omega
    have e16 : be2 (Hdr.front ⟨⟨d0, d1, d2, d3, d4, d5⟩, ⟨s0, s1, s2, s3, s4, s5⟩, true, (p : Int), dei, (v : Int), (t : Int), llc⟩ ++ R) 16 = t := by
      simp [Hdr.front, Mac6.list, beBytes, be2, beNum, u8_ofNat, Hdr.tagB]
      omega
    unfold insideF
    rw [e12, if_pos rfl, e14, e16, if_neg (by rintro ⟨h, _⟩; cases h)]
    have q1 : (p * 8192 + d * 4096 + v) / 8192 = p := by omega
    have q2 : (p * 8192 + d * 4096 + v) / 4096 % 2 = d := by omega
    have q3 : (p * 8192 + d * 4096 + v) % 4096 = v := by omega
    rw [q1, q2, q3, ← hdb]
    rfl

theorem parse_sealed {M : List UInt8} (h1 : 60 ≤ M.length) (h2 : M.length ≤ 1518) : parseF (sealL M) = insideF M (M.length + 4) := by
  unfold parseF
  rw [sealL_length, if_neg (by omega), if_neg (by omega), openR_seal]

theorem finF_ok {F : Hdr} {R : List UInt8} (g : F.Good) (f : F.Fits R) : finF ⟨F.dst, F.src, F.tagged, F.pcp, F.dei, F.vid, F.typ, false⟩ R = .ok (F, if F.llc = true then R.take F.typ.toNat else R) := by
  obtain ⟨_, _, _, _, v7, src, t0, t7, _⟩ := g
  obtain ⟨dst, s, tagged, pcp, dei, vid, typ, llc⟩ := F
  unfold finF
  dsimp only at *
  rw [if_neg (by rintro (x | x); · rw [src] at x; cases x
                 · omega)]
  rcases f with ⟨rfl, f1, f2⟩ | ⟨rfl, f1⟩
  · dsimp only at *
    rw [if_neg (by omega), if_neg (by omega), if_pos rfl]
  · dsimp only at *
    rw [if_pos (by omega), if_neg (by decide)]

/-- How many noughts a frame's payload gets. -/
def padN (F : Hdr) (n : Nat) : Nat := 60 - ((if F.tagged = true then 18 else 14) + n)
def padR (F : Hdr) (R : List UInt8) : List UInt8 := R ++ List.replicate (padN F R.length) 0

theorem pad_front (F : Hdr) (R : List UInt8) : padL (F.front ++ R) = F.front ++ padR F R := by
  unfold padL padR padN
  rw [List.length_append, front_length, List.append_assoc]

theorem front_pad (F : Hdr) (R : List UInt8) (h : R.length ≤ 1500) : 60 ≤ (F.front ++ padR F R).length ∧ (F.front ++ padR F R).length ≤ 1518 ∧ (F.tagged = false → (F.front ++ padR F R).length ≤ 1514) := by
  rw [List.length_append, front_length]
  unfold padR padN
  rw [List.length_append, List.length_replicate]
  cases F.tagged
  · simp only [Bool.false_eq_true, if_false]
    omega
  · simp only [if_true]
    refine ⟨by omega, by omega, fun h => by cases h⟩

theorem padR_fits {F : Hdr} {R : List UInt8} (f : F.Fits R) : F.Fits (padR F R) := by
  rcases f with ⟨a, b, c⟩ | ⟨a, b⟩
  · refine .inl ⟨a, b, ?_⟩
    unfold padR
    rw [List.length_append]
    omega
  · exact .inr ⟨a, b⟩

theorem parse_build {F : Hdr} {R : List UInt8} (g : F.Good) (f : F.Fits R) (h : R.length ≤ 1500) : parseF (F.build R) = .ok (F, if F.llc = true then (padR F R).take F.typ.toNat else padR F R) := by
  obtain ⟨l1, l2, l3⟩ := front_pad F R h
  unfold Hdr.build
  rw [pad_front, parse_sealed l1 l2, inside_front F _ _ g.plain g.p0 g.p7 g.v0 (by have := g.v7; omega) g.t0 g.t7 g.tag, if_neg, finF_ok g (padR_fits f)]
  rintro ⟨a, b⟩
  have := l3 a
  omega

theorem parse_built {F : Hdr} {D : List UInt8} (e : F.check D.length = 0) : parseF (F.build D) = .ok (F, if F.llc = true then D else padR F D) := by
  have h := check_ok e
  rw [parse_build (good_ok e) (fits_ok e) (by omega)]
  congr 2
  cases hl : F.llc with
  | false => rfl
  | true =>
    rw [if_pos rfl, if_pos rfl]
    have : F.typ = D.length := by
      rcases h.2.2.2.2.2.2.2.2.2.2 with ⟨_, h⟩ | ⟨h, _⟩
      · exact h
      · rw [hl] at h; cases h
    unfold padR
    rw [this, Int.toNat_natCast, List.take_left' rfl]

/-! ### another tag -/

def Hdr.with (F : Hdr) (t : Bool) (p : Int) (d : Bool) (v : Int) : Hdr := ⟨F.dst, F.src, t, p, d, v, F.typ, F.llc⟩

theorem out_build (F : Hdr) (R : List UInt8) (N : Hdr) : outF (F.build R) N = F.dst.list ++ F.src.list ++ (if N.tagged = true then N.tagB else []) := by
  unfold outF Hdr.build padL sealL Hdr.front
  congr 1

theorem rest_build (F : Hdr) (R : List UInt8) : restF (F.build R) F = beBytes F.typ.toNat 2 ++ padR F R := by
  have e : F.build R = (F.dst.list ++ F.src.list ++ (if F.tagged = true then F.tagB else [])) ++ ((beBytes F.typ.toNat 2 ++ padR F R) ++ le4 (crcSum (padL (F.front ++ R)))) := by
    show padL (F.front ++ R) ++ le4 (crcSum (padL (F.front ++ R))) = _
    generalize le4 (crcSum (padL (F.front ++ R))) = z
    rw [pad_front]
    unfold Hdr.front
    simp only [List.append_assoc]
  have hl : (F.dst.list ++ F.src.list ++ (if F.tagged = true then F.tagB else [])).length = atF F := by
    unfold atF Hdr.tagB
    split <;> simp [Mac6.list, beBytes_length]
  unfold restF
  rw [e]
  generalize F.dst.list ++ F.src.list ++ (if F.tagged = true then F.tagB else []) = P at *
  generalize hq : beBytes F.typ.toNat 2 ++ padR F R = Q at *
  have h4 : (le4 (crcSum (padL (F.front ++ R)))).length = 4 := rfl
  generalize le4 (crcSum (padL (F.front ++ R))) = z at *
  rw [List.drop_left' hl]
  simp only [List.length_append]
  exact List.take_left' (by omega)

theorem next_check (F : Hdr) (g : F.Good) (t : Bool) (p : Int) (d : Bool) (v : Int) : (nextH F t p d v).check 0 = if (nextH F t p d v).plain = true ∨ p < 0 ∨ p > 7 ∨ v < 0 ∨ v > 4094 then 1 else 0 := by
  unfold Hdr.check
  rw [if_neg (by omega)]
  have e : (nextH F t p d v).src.group = false := g.src
  rw [e]
  by_cases c : (nextH F t p d v).plain = true ∨ p < 0 ∨ p > 7 ∨ v < 0 ∨ v > 4094
  · rw [if_pos c, if_pos (show (nextH F t p d v).plain = true ∨ (nextH F t p d v).pcp < 0 ∨ (nextH F t p d v).pcp > 7 ∨ (nextH F t p d v).vid < 0 ∨ (nextH F t p d v).vid > 4094 from c)]
  · rw [if_neg c, if_neg (show ¬ ((nextH F t p d v).plain = true ∨ (nextH F t p d v).pcp < 0 ∨ (nextH F t p d v).pcp > 7 ∨ (nextH F t p d v).vid < 0 ∨ (nextH F t p d v).vid > 4094) from c), if_neg (by decide), if_neg]
    dsimp only [nextH]
    rintro (⟨x, _⟩ | ⟨_, x⟩)
    · cases x
    · omega

theorem retag_bad {F : Hdr} {R : List UInt8} (g : F.Good) (f : F.Fits R) (h : R.length ≤ 1500) {t : Bool} {p : Int} {d : Bool} {v : Int} (bad : (nextH F t p d v).plain = true ∨ p < 0 ∨ p > 7 ∨ v < 0 ∨ v > 4094) :
    retagF (F.build R) t p d v = .error 1 := by
  unfold retagF
  rw [parse_build g f h]
  dsimp only
  rw [next_check F g, if_pos bad, if_pos (by decide)]

theorem typ_bytes {t : Nat} (h : t ≤ 65535) (X : List UInt8) : ((beBytes t 2 ++ X).getD 0 0 = 129 ∧ (beBytes t 2 ++ X).getD 1 0 = 0) ↔ t = 33024 := by
  have e0 : (beBytes t 2 ++ X).getD 0 0 = UInt8.ofNat (t / 256 % 256) := by simp [beBytes]
  have e1 : (beBytes t 2 ++ X).getD 1 0 = UInt8.ofNat (t % 256) := by simp [beBytes]
  rw [e0, e1]
  constructor
  · rintro ⟨a, b⟩
    have a := congrArg UInt8.toNat a
    have b := congrArg UInt8.toNat b
    rw [u8_ofNat] at a b
    replace a : _ = 129 := a
    replace b : _ = 0 := b
    omega
  · rintro rfl
    exact ⟨rfl, rfl⟩

theorem retag_form {F : Hdr} {R : List UInt8} (g : F.Good) (f : F.Fits R) (h : R.length ≤ 1500) {p : Int} {d : Bool} {v : Int} (ok : ¬ ((nextH F false p d v).plain = true ∨ p < 0 ∨ p > 7 ∨ v < 0 ∨ v > 4094)) (ht : F.typ = 33024) :
    retagF (F.build R) false p d v = .error 4 := by
  unfold retagF
  rw [parse_build g f h]
  dsimp only
  rw [next_check F g, if_neg ok, if_neg (by decide), rest_build, if_pos]
  refine ⟨rfl, ?_, ?_⟩
  · rw [List.length_append, beBytes_length]
    have := (front_pad F R h).1
    rw [List.length_append, front_length] at this
    split at this <;> omega
  · exact (typ_bytes (by have := g.t7; have := g.t0; omega) _).2 (by omega)

theorem padR_length (F : Hdr) (R : List UInt8) (h : R.length ≤ 1500) : R.length ≤ (padR F R).length ∧ (padR F R).length ≤ 1500 := by
  unfold padR padN
  rw [List.length_append, List.length_replicate]
  split <;> omega

theorem retag_ok {F : Hdr} {R : List UInt8} (g : F.Good) (f : F.Fits R) (h : R.length ≤ 1500) {t : Bool} {p : Int} {d : Bool} {v : Int} (ok : ¬ ((nextH F t p d v).plain = true ∨ p < 0 ∨ p > 7 ∨ v < 0 ∨ v > 4094)) (ht : t = false → F.typ ≠ 33024) :
    retagF (F.build R) t p d v = .ok ((F.with t p d v).build (padR F R)) := by
  have hl := padR_length F R h
  unfold retagF
  rw [parse_build g f h]
  dsimp only
  rw [next_check F g, if_neg ok, if_neg (by decide), rest_build, out_build, if_neg, if_neg]
  · unfold Hdr.build Hdr.front
    simp only [List.append_assoc]
    rfl
  · have e : (F.dst.list ++ F.src.list ++ (if (nextH F t p d v).tagged = true then (nextH F t p d v).tagB else [])).length = if t = true then 16 else 12 := by
      show (F.dst.list ++ F.src.list ++ (if t = true then (nextH F t p d v).tagB else [])).length = _
      split <;> simp [Mac6.list, Hdr.tagB, beBytes_length]
    rw [e, List.length_append, beBytes_length]
    cases t
    · simp only [Bool.false_eq_true, if_false]
      omega
    · simp only [if_true]
      rintro (x | x)
      · omega
      · cases x.1
  · rintro ⟨a, _, b⟩
    have := (typ_bytes (by have := g.t7; have := g.t0; omega) _).1 b
    exact ht a (by have := g.t0; omega)

theorem with_good {F : Hdr} (g : F.Good) {t : Bool} {p : Int} {d : Bool} {v : Int} (ok : ¬ ((nextH F t p d v).plain = true ∨ p < 0 ∨ p > 7 ∨ v < 0 ∨ v > 4094)) (ht : t = false → F.typ ≠ 33024) : (F.with t p d v).Good := by
  refine ⟨?_, ?_, ?_, ?_, ?_, g.src, g.t0, g.t7, ht⟩
  · show (nextH F t p d v).plain = false
    cases hx : (nextH F t p d v).plain with
    | false => rfl
    | true => exact absurd (.inl hx) ok
  all_goals
    show _ ≤ _
    dsimp only [Hdr.with]
    omega

theorem with_fits {F : Hdr} {R : List UInt8} (f : F.Fits R) (t : Bool) (p : Int) (d : Bool) (v : Int) : (F.with t p d v).Fits R := f

theorem with_back (F : Hdr) (t : Bool) (p : Int) (d : Bool) (v : Int) : (F.with t p d v).with F.tagged F.pcp F.dei F.vid = F := rfl

theorem own_ok {F : Hdr} (g : F.Good) (G : Hdr) : ¬ ((nextH G F.tagged F.pcp F.dei F.vid).plain = true ∨ F.pcp < 0 ∨ F.pcp > 7 ∨ F.vid < 0 ∨ F.vid > 4094) := by
  rintro (x | x)
  · have : F.plain = true := x
    rw [g.plain] at this; cases this
  · have := g.p0
    have := g.p7
    have := g.v0
    have := g.v7
    omega

end Go.Proofs.Ytcjilkemfmhkgaa
