import Derived.Test.YtcjilkemfmhkgaaEnv
import Derived.Test.YtcjilkemfmhkgaaLib
namespace Go.Proofs.Ytcjilkemfmhkgaa
open Go.Vc
set_option maxRecDepth 10000

/-! ### texts that come in -/

theorem arg_bytes {h : Heap} {v : Value} (a : Arg EE h 43 v) : ∃ L, BytesV h v L ∧ L.length ≤ 9223372036854775807 := by
  obtain ⟨A, n, cap, rfl, h1, h2, h3⟩ := a.slice (e := 5) rfl rfl rfl rfl (by decide)
  have h4 : ∀ i, i < n → ∃ x : UInt8, Elem h A i 1 [byteV x] := by
    intro i hi
    obtain ⟨cs, he, hf⟩ := h3 3 i hi
    obtain ⟨p, rfl, wp⟩ : ∃ n, cs = [.int .u8 n] ∧ (Lit.int .u8 n).wf = true := hf
    simp only [Lit.wf, IntKind.min, IntKind.max, IntKind.signed, IntKind.bits, Bool.and_eq_true, decide_eq_true_eq, if_true] at wp
    refine ⟨UInt8.ofNat p.toNat, ?_⟩
    have e : byteV (UInt8.ofNat p.toNat) = .int .u8 p := by
      unfold byteV
      congr 1
      simp only [UInt8.toNat_ofNat']
      simp at wp
      omega
    rw [e]
    have he' : Elem h A (i * 1) 1 [.int .u8 p] := he
    rw [Nat.mul_one] at he'
    exact he'
  obtain ⟨L, hl, hL⟩ := choose_list n h4
  subst hl
  refine ⟨L, ⟨A, cap, rfl, h1, ?_, fun e => ?_⟩, by rw [maxLen_eq] at h2; omega⟩
  · apply Row.of_elems
    intro i v hv
    rw [List.getElem?_map] at hv
    cases hLi : L[i]? with
    | none => rw [hLi] at hv; cases hv
    | some x =>
      rw [hLi] at hv
      injection hv with hv
      rw [← hv]
      exact hL i x hLi
  · cases L with
    | nil => rfl
    | cons x r =>
      obtain ⟨b, o, hA⟩ := (hL 0 x rfl).some
      rw [e] at hA
      cases hA

theorem arg_int {h : Heap} {v : Value} (a : Arg EE h 3 v) : ∃ n : Int, v = .int .i64 n ∧ -9223372036854775808 ≤ n ∧ n ≤ 9223372036854775807 := by
  have h1 := a.one ⟨.int .i64, 1, 8, false, some (.int .i64 0)⟩ rfl rfl
  obtain ⟨p, hp, wp⟩ : ∃ n, v.cells.toList = [.int .i64 n] ∧ (Lit.int .i64 n).wf = true := a.fm 1
  rw [h1] at hp
  simp only [List.cons.injEq, and_true] at hp
  subst hp
  simp only [Lit.wf, IntKind.min, IntKind.max, IntKind.signed, IntKind.bits, Bool.and_eq_true, decide_eq_true_eq, if_true] at wp
  refine ⟨p, rfl, ?_, ?_⟩ <;> simp at wp <;> omega

theorem arg_u32 {h : Heap} {v : Value} (a : Arg EE h 105 v) : ∃ w : BitVec 32, v = .int .u32 (w.toNat : Int) := by
  have h1 := a.one ⟨.int .u32, 1, 4, false, some (.int .u32 0)⟩ rfl rfl
  obtain ⟨p, hp, wp⟩ : ∃ n, v.cells.toList = [.int .u32 n] ∧ (Lit.int .u32 n).wf = true := a.fm 1
  rw [h1] at hp
  simp only [List.cons.injEq, and_true] at hp
  subst hp
  simp only [Lit.wf, IntKind.min, IntKind.max, IntKind.signed, IntKind.bits, Bool.and_eq_true, decide_eq_true_eq, if_true] at wp
  refine ⟨BitVec.ofNat 32 p.toNat, ?_⟩
  simp at wp
  congr 1
  simp
  omega

theorem arg_u8 {h : Heap} {v : Value} (a : Arg EE h 5 v) : ∃ w : UInt8, v = .int .u8 (w.toNat : Int) := by
  have h1 := a.one ⟨.int .u8, 1, 1, false, some (.int .u8 0)⟩ rfl rfl
  obtain ⟨p, hp, wp⟩ : ∃ n, v.cells.toList = [.int .u8 n] ∧ (Lit.int .u8 n).wf = true := a.fm 1
  rw [h1] at hp
  simp only [List.cons.injEq, and_true] at hp
  subst hp
  simp only [Lit.wf, IntKind.min, IntKind.max, IntKind.signed, IntKind.bits, Bool.and_eq_true, decide_eq_true_eq, if_true] at wp
  refine ⟨UInt8.ofNat p.toNat, ?_⟩
  simp at wp
  congr 1
  simp only [UInt8.toNat_ofNat']
  omega

theorem arg_u64 {h : Heap} {v : Value} (a : Arg EE h 70 v) : ∃ n : Nat, v = .int .u64 (n : Int) ∧ n < 18446744073709551616 := by
  have h1 := a.one ⟨.int .u64, 1, 8, false, some (.int .u64 0)⟩ rfl rfl
  obtain ⟨p, hp, wp⟩ : ∃ n, v.cells.toList = [.int .u64 n] ∧ (Lit.int .u64 n).wf = true := a.fm 1
  rw [h1] at hp
  simp only [List.cons.injEq, and_true] at hp
  subst hp
  simp only [Lit.wf, IntKind.min, IntKind.max, IntKind.signed, IntKind.bits, Bool.and_eq_true, decide_eq_true_eq, if_true] at wp
  simp at wp
  refine ⟨p.toNat, ?_, by omega⟩
  congr 1
  omega

theorem arg_bool {h : Heap} {v : Value} (a : Arg EE h 4 v) : ∃ b, v = .bool b := by
  have h1 := a.one ⟨.bool, 1, 1, false, some (.bool false)⟩ rfl rfl
  obtain ⟨p, hp⟩ : ∃ n, v.cells.toList = [.bool n] := a.fm 1
  rw [h1] at hp
  simp only [List.cons.injEq, and_true] at hp
  exact ⟨p, hp⟩

end Go.Proofs.Ytcjilkemfmhkgaa
