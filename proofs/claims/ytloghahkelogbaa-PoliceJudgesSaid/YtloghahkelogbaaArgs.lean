import Derived.Test.YtloghahkelogbaaPair
namespace Go.Proofs.Ytloghahkelogbaa
open Go.Vc
set_option maxRecDepth 10000

/-! ### arguments -/

theorem pick_at {α : Type} {P : Nat → α → Prop} : ∀ (n : Nat), (∀ i, i < n → ∃ x, P i x) → ∃ L : List α, L.length = n ∧ ∀ (i : Nat) x, L[i]? = some x → P i x
  | 0, _ => ⟨[], rfl, fun i x h => by simp at h⟩
  | n + 1, h => by
    obtain ⟨L, hl, hL⟩ := pick_at n (fun i hi => h i (by omega))
    obtain ⟨x, hx⟩ := h n (by omega)
    refine ⟨L ++ [x], by simp [hl], fun i y hy => ?_⟩
    rw [List.getElem?_append] at hy
    split at hy
    · exact hL i y hy
    · rename_i hi
      have e : i - L.length = 0 := by
        rcases Nat.lt_or_ge (i - L.length) 1 with h | h
        · omega
        · rw [List.getElem?_eq_none (by simpa using h)] at hy; cases hy
      rw [e] at hy
      simp only [List.getElem?_cons_zero, Option.some.injEq] at hy
      subst hy
      have : i = n := by omega
      rw [this]
      exact hx

end Go.Proofs.Ytloghahkelogbaa
