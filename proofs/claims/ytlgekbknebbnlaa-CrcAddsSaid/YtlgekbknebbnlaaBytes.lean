import Derived.Test.YtlgekbknebbnlaaEnv
import Derived.Test.YtlgekbknebbnlaaLib
namespace Go.Proofs.Ytlgekbknebbnlaa
open Go.Vc
set_option maxRecDepth 10000

/-! ### texts that come in -/

theorem arg_bytes {h : Heap} {v : Value} (a : Arg EE h 22 v) : ∃ L, BytesV h v L ∧ L.length ≤ 9223372036854775807 := by
  obtain ⟨A, n, cap, rfl, h1, h2, h3⟩ := a.slice (e := 5) rfl rfl rfl rfl (by decide)
  have h4 : ∀ i, i < n → ∃ x : UInt8, Elem h A i 1 [byteV x] := by
    intro i hi
    obtain ⟨cs, he, hf⟩ := h3 3 i hi
    obtain ⟨p, rfl, wp⟩ : ∃ n, cs = [.int .u8 n] ∧ (Lit.int .u8 n).wf = true := hf
    simp only [Lit.wf, IntKind.min, IntKind.max, IntKind.signed, IntKind.bits, Bool.and_eq_true, decide_eq_true_eq, if_true] at wp
    refine ⟨UInt8.ofNat p.toNat, ?_⟩
    have e : byteV (UInt8.ofNat p.toNat) = .int .u8 p := by
      unfold byteV
      congr 1
      simp only [UInt8.toNat_ofNat']
      simp at wp
      omega
    rw [e]
    have he' : Elem h A (i * 1) 1 [.int .u8 p] := he
    rw [Nat.mul_one] at he'
    exact he'
  obtain ⟨L, hl, hL⟩ := choose_list n h4
  subst hl
  refine ⟨L, ⟨A, cap, rfl, h1, ?_, fun e => ?_⟩, by rw [maxLen_eq] at h2; omega⟩
  · apply Row.of_elems
    intro i v hv
    rw [List.getElem?_map] at hv
    cases hLi : L[i]? with
    | none => rw [hLi] at hv; cases hv
    | some x =>
      rw [hLi] at hv
      injection hv with hv
      rw [← hv]
      exact hL i x hLi
  · cases L with
    | nil => rfl
    | cons x r =>
      obtain ⟨b, o, hA⟩ := (hL 0 x rfl).some
      rw [e] at hA
      cases hA

end Go.Proofs.Ytlgekbknebbnlaa
