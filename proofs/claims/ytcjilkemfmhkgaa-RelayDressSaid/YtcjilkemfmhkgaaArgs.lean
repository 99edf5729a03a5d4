import Derived.Test.YtcjilkemfmhkgaaPair
namespace Go.Proofs.Ytcjilkemfmhkgaa
open Go.Vc
set_option maxRecDepth 10000

/-! ### arguments -/

theorem argi {h : Heap} {v : Value} (a : Arg EE h 3 v) : ∃ n : Int, v = .int .i64 n ∧ -9223372036854775808 ≤ n ∧ n ≤ 9223372036854775807 := by
  have h1 := a.one ⟨.int .i64, 1, 8, false, some (.int .i64 0)⟩ rfl rfl
  obtain ⟨p, hp, r1, r2⟩ := fm_int (a.fm 1)
  rw [h1] at hp
  simp only [List.cons.injEq, and_true] at hp
  subst hp
  exact ⟨p, rfl, r1, r2⟩

theorem pick_at {α : Type} {P : Nat → α → Prop} : ∀ (n : Nat), (∀ i, i < n → ∃ x, P i x) → ∃ L : List α, L.length = n ∧ ∀ (i : Nat) x, L[i]? = some x → P i x
  | 0, _ => ⟨[], rfl, fun i x h => by simp at h⟩
  | n + 1, h => by
    obtain ⟨L, hl, hL⟩ := pick_at n (fun i hi => h i (by omega))
    obtain ⟨x, hx⟩ := h n (by omega)
    refine ⟨L ++ [x], by simp [hl], fun i y hy => ?_⟩
    rw [List.getElem?_append] at hy
    split at hy
    · exact hL i y hy
    · rename_i hi
      have e : i - L.length = 0 := by
        rcases Nat.lt_or_ge (i - L.length) 1 with h | h
        · omega
        · rw [List.getElem?_eq_none (by simpa using h)] at hy; cases hy
      rw [e] at hy
      simp only [List.getElem?_cons_zero, Option.some.injEq] at hy
      subst hy
      have : i = n := by omega
      rw [this]
      exact hx

theorem argis {h : Heap} {v : Value} (a : Arg EE h 29 v) : ∃ (ns : List Int) (P : Option Addr) (cap : Nat), v = .slice P ns.length cap ∧ ns.length ≤ 9223372036854775807 ∧
    ∀ (i : Nat) n, ns[i]? = some n → Elem h P i 1 [.int .i64 n] ∧ -9223372036854775808 ≤ n ∧ n ≤ 9223372036854775807 := by
  obtain ⟨A, n, cap, rfl, h1, h2, h3⟩ := a.slice (e := 3) (z := ⟨.int .i64, 1, 8, false, some (.int .i64 0)⟩) rfl rfl rfl rfl (by decide)
  have h4 : ∀ i, i < n → ∃ p : Int, Elem h A i 1 [.int .i64 p] ∧ -9223372036854775808 ≤ p ∧ p ≤ 9223372036854775807 := by
    intro i hi
    obtain ⟨cs, he, hf⟩ := h3 3 i hi
    obtain ⟨p, rfl, r1, r2⟩ := fm_int (k := 2) hf
    have he' : Elem h A (i * 1) 1 [.int .i64 p] := he
    rw [Nat.mul_one] at he'
    exact ⟨p, he', r1, r2⟩
  obtain ⟨L, hl, hL⟩ := pick_at n h4
  subst hl
  have hm : maxLen ≤ 9223372036854775807 := by decide
  exact ⟨L, A, cap, rfl, by omega, hL⟩

end Go.Proofs.Ytcjilkemfmhkgaa
