import Derived.Test.YtcjilkemfmhkgaaLib
namespace Go.Vc

/-! ### a value is held against itself -/

theorem allB_true : ∀ {l : List (Option Bool)} {b : Bool}, allB l = some b → (∀ c, some c ∈ l → c = true) → b = true
  | [], b, h, _ => by
    simp only [allB, Option.some.injEq] at h
    exact h.symm
  | x :: r, b, h, hc => by
    simp only [allB] at h
    cases x with
    | none => simp at h
    | some d =>
      cases hr : allB r with
      | none => rw [hr] at h; simp at h
      | some e =>
        rw [hr] at h
        simp only [Option.some.injEq] at h
        have h1 := hc d (by simp)
        have h2 := allB_true hr (fun c hm => hc c (by simp [hm]))
        rw [← h, h1, h2]; rfl

theorem eqB_refl {E : Env} : ∀ {k t : Nat} {xs : List Value} {b : Bool}, eqB E k t xs xs = some b → b = true
  | 0, t, xs, b, h => by simp [eqB] at h
  | k + 1, t, xs, b, h => by
    simp only [eqB] at h
    split at h
    · cases h
    · split at h
      · rcases xs with _ | ⟨v, _ | _⟩
        · cases h
        · cases v <;> first | (cases h; done) | (injection h with h; rw [← h]; exact beq_self_eq_true _) | (injection h with h; rw [← h]; simp)
        · cases v <;> cases h
      · rcases xs with _ | ⟨v, _ | _⟩
        · cases h
        · cases v <;> first | cases h | skip
          dsimp only at h
          split at h
          · simpa using h.symm
          · cases h
        · cases v <;> cases h
      · rcases xs with _ | ⟨v, _ | _⟩
        · cases h
        · cases v <;> first | (cases h; done) | (injection h with h; rw [← h]; rename_i s; show (s.data == s.data) = true; exact beq_self_eq_true _)
        · cases v <;> cases h
      · split at h
        · cases h
        · refine allB_true h fun c hm => ?_
          rw [List.mem_map] at hm
          obtain ⟨f, _, hf⟩ := hm
          split at hf
          · simpa using hf.symm
          · split at hf
            · cases hf
            · exact eqB_refl hf
      · split at h
        · cases h
        · refine allB_true h fun c hm => ?_
          rw [List.mem_map] at hm
          obtain ⟨f, _, hf⟩ := hm
          exact eqB_refl hf
      · cases h

theorem eqB_same {E : Env} {k t : Nat} {xs : List Value} (h : (eqB E k t xs xs).isSome = true) : eqB E k t xs xs = some true := by
  cases hx : eqB E k t xs xs with
  | none => rw [hx] at h; cases h
  | some b => rw [eqB_refl hx]

end Go.Vc
