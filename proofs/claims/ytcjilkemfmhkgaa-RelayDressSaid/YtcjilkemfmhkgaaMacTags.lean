import Derived.Test.YtcjilkemfmhkgaaMacLaw
import Derived.Test.YtcjilkemfmhkgaaSame
namespace Go.Proofs.Ytcjilkemfmhkgaa
open Go.Vc
set_option maxRecDepth 100000
set_option maxHeartbeats 4000000

theorem mac_self (m : Mac6) : eqB EW 20 36 m.cells m.cells = some true := eqB_same (by kernel_rfl)
theorem hdr_self (F : Hdr) : eqB EW 20 41 F.cells F.cells = some true := eqB_same (by kernel_rfl)

theorem arg_int4 {h : Heap} {v : Value} (a : Arg EE h 44 v) : ∃ q0 q1 q2 q3 : Int, v = .agg #[.int .i64 q0, .int .i64 q1, .int .i64 q2, .int .i64 q3] ∧ (-9223372036854775808 ≤ q1 ∧ q1 ≤ 9223372036854775807) ∧ (-9223372036854775808 ≤ q3 ∧ q3 ≤ 9223372036854775807) := by
  obtain ⟨cs, rfl⟩ := a.agg _ rfl rfl
  obtain ⟨hl, he⟩ : cs.toList.length = 4 ∧ ∀ i, i < 4 → Fm EE h 3 3 ((cs.toList.drop (i * 1)).take 1) := a.fm 4
  have g : ∀ i, i < 4 → ∃ n : Int, cs.toList[i]? = some (.int .i64 n) ∧ -9223372036854775808 ≤ n ∧ n ≤ 9223372036854775807 := by
    intro i hi
    obtain ⟨n, hn, hr⟩ := fm_int (k := 2) (he i hi)
    rw [Nat.mul_one] at hn
    exact ⟨n, list_one hn, hr⟩
  obtain ⟨q0, h0, _⟩ := g 0 (by decide)
  obtain ⟨q1, h1, r1⟩ := g 1 (by decide)
  obtain ⟨q2, h2, _⟩ := g 2 (by decide)
  obtain ⟨q3, h3, r3⟩ := g 3 (by decide)
  refine ⟨q0, q1, q2, q3, ?_, r1, r3⟩
  congr 1
  apply Array.toList_inj.1
  generalize cs.toList = l at *
  match l, hl, h0, h1, h2, h3 with
  | [c0, c1, c2, c3], _, h0, h1, h2, h3 =>
    simp only [List.getElem?_cons_zero, List.getElem?_cons_succ, Option.some.injEq] at h0 h1 h2 h3
    rw [h0, h1, h2, h3]

def tx (F : Hdr) (R : List UInt8) : List UInt8 := if F.llc = true then R.take F.typ.toNat else R

theorem tx_ok {F : Hdr} {D R : List UInt8} (e : F.check D.length = 0) (hR : R.take D.length = D) : D.length ≤ (tx F R).length ∧ (tx F R).take D.length = D := by
  have hl : D.length ≤ R.length := by
    have := congrArg List.length hR
    rw [List.length_take] at this
    omega
  unfold tx
  split
  · rename_i h
    have ht : F.typ = D.length := by
      rcases (check_ok e).2.2.2.2.2.2.2.2.2.2 with ⟨_, x⟩ | ⟨x, _⟩
      · exact x
      · rw [h] at x; cases x
    rw [ht, Int.toNat_natCast, hR]
    exact ⟨Nat.le_refl _, List.take_length⟩
  · exact ⟨hl, hR⟩

theorem padR_take (F : Hdr) {D R : List UInt8} (hR : R.take D.length = D) : (padR F R).take D.length = D := by
  have hl : D.length ≤ R.length := by
    have := congrArg List.length hR
    rw [List.length_take] at this
    omega
  unfold padR
  rw [List.take_append_of_le_length hl, hR]

theorem build_len (F : Hdr) (R : List UInt8) (h : R.length ≤ 1500) : (F.build R).length ≤ 1522 := by
  have := front_pad F R h
  unfold Hdr.build
  rw [sealL_length, pad_front]
  omega

theorem parse_tx {F : Hdr} {D R : List UInt8} (e : F.check D.length = 0) {t : Bool} {p : Int} {d : Bool} {v : Int} (g : (F.with t p d v).Good) (f : (F.with t p d v).Fits R) (h : R.length ≤ 1500) (hR : R.take D.length = D) :
    ∃ T, parseF ((F.with t p d v).build R) = .ok (F.with t p d v, T) ∧ D.length ≤ T.length ∧ T.take D.length = D :=
  ⟨tx F (padR (F.with t p d v) R), parse_build g f h, tx_ok e (padR_take _ hR)⟩

theorem parse_tz {F : Hdr} {D R : List UInt8} (e : F.check D.length = 0) {X : Hdr} {B : List UInt8} {t : Bool} {p : Int} {d : Bool} {v : Int} (_ : retagF B t p d v = .ok (F.build (padR X R))) (f : F.Fits R) (h : R.length ≤ 1500) (hR : R.take D.length = D) :
    ∃ B2 T, F.build (padR X R) = B2 ∧ parseF B2 = .ok (F, T) ∧ D.length ≤ T.length ∧ T.take D.length = D ∧ B2.length ≤ 1000000 := by
  have f2 : F.Fits (padR X R) := by
    rcases f with ⟨a, b, c⟩ | ⟨a, b⟩
    · refine .inl ⟨a, b, ?_⟩
      have := (padR_length X R h).1
      omega
    · exact .inr ⟨a, b⟩
  have hl := (padR_length X R h).2
  exact ⟨_, tx F (padR F (padR X R)), rfl, parse_build (good_ok e) f2 hl, (tx_ok e (padR_take _ (padR_take _ hR))).1, (tx_ok e (padR_take _ (padR_take _ hR))).2, Nat.le_trans (build_len _ _ hl) (by decide)⟩

end Go.Proofs.Ytcjilkemfmhkgaa
