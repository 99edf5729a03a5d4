import Derived.Test.YtlgekbknebbnlaaLays
namespace Go.Proofs.Ytlgekbknebbnlaa
open Go.Vc
set_option maxRecDepth 10000
set_option maxHeartbeats 4000000

theorem arg_pairs {h : Heap} {v : Value} (a : Arg EE h 52 v) : ∃ (ps : List (Nat × Nat)) (P : Option Addr) (cap : Nat), v = .slice P ps.length cap ∧ ps.length ≤ 9223372036854775807 ∧
    ∀ i p, ps[i]? = some p → Elem h P (i * 2) 2 (pairCells p) ∧ p.1 < 18446744073709551616 ∧ p.2 < 18446744073709551616 := by
  obtain ⟨A, n, cap, rfl, h1, h2, h3⟩ := a.slice (e := 54) (z := ⟨.array 2 37, 2, 16, true, some (.agg #[.int .u64 0, .int .u64 0])⟩) rfl rfl rfl rfl (by decide)
  have h4 : ∀ i, i < n → ∃ p : Nat × Nat, Elem h A (i * 2) 2 (pairCells p) ∧ p.1 < 18446744073709551616 ∧ p.2 < 18446744073709551616 := by
    intro i hi
    obtain ⟨cs, he, hf⟩ := h3 3 i hi
    obtain ⟨hlen, hel⟩ : cs.length = 2 ∧ ∀ i, i < 2 → Fm EE h 2 37 ((cs.drop (i * 1)).take 1) := hf
    obtain ⟨x, y, rfl⟩ : ∃ x y, cs = [x, y] := by
      match cs, hlen with
      | [x, y], _ => exact ⟨x, y, rfl⟩
    obtain ⟨p, hp, wp⟩ : ∃ n, [x] = [Value.int .u64 n] ∧ (Lit.int .u64 n).wf = true := hel 0 (by decide)
    obtain ⟨q, hq, wq⟩ : ∃ n, [y] = [Value.int .u64 n] ∧ (Lit.int .u64 n).wf = true := hel 1 (by decide)
    simp only [List.cons.injEq, and_true] at hp hq
    subst hp hq
    simp only [Lit.wf, IntKind.min, IntKind.max, IntKind.signed, IntKind.bits, Bool.and_eq_true, decide_eq_true_eq, if_true] at wp wq
    simp at wp wq
    refine ⟨(p.toNat, q.toNat), ?_, by show p.toNat < _; omega, by show q.toNat < _; omega⟩
    have e : pairCells (p.toNat, q.toNat) = [.int .u64 p, .int .u64 q] := by
      simp only [pairCells]
      rw [show ((p.toNat : Nat) : Int) = p by omega, show ((q.toNat : Nat) : Int) = q by omega]
    rw [e]
    exact he
  obtain ⟨L, hl, hL⟩ := choose_list n h4
  subst hl
  exact ⟨L, A, cap, rfl, by rw [maxLen_eq] at h2; omega, hL⟩

def tot : List (Nat × Nat) → Nat
  | [] => 0
  | (_, s) :: r => s + tot r

def val : List (Nat × Nat) → Nat
  | [] => 0
  | (x, _) :: r => x * 2 ^ tot r + val r

theorem pack_val : ∀ {ps : List (Nat × Nat)} {n all m : Nat}, packF ps n all = some m → n < 2 ^ all → all ≤ 64 → (∀ p ∈ ps, p.1 < 18446744073709551616) →
    m = n * 2 ^ tot ps + val ps ∧ all + tot ps ≤ 64 ∧ (∀ p ∈ ps, p.1 < 2 ^ p.2) ∧ val ps < 2 ^ tot ps
  | [], n, all, m, h, _, ha, _ => by
    simp only [packF, Option.some.injEq] at h
    subst h
    simp [tot, val, ha]
  | (x, s) :: r, n, all, m, h, hn, ha, hx => by
    have hx0 : x < 18446744073709551616 := hx (x, s) (by simp)
    simp only [packF] at h
    split at h
    · cases h
    rename_i c1
    split at h
    · cases h
    rename_i c2
    have hxs : x < 2 ^ s := by
      rcases Nat.lt_or_ge s 64 with h1 | h1
      · have h2 : x / 2 ^ s = 0 := by
          rcases Nat.eq_zero_or_pos (x / 2 ^ s) with h3 | h3
          · exact h3
          · exact absurd (.inr ⟨h1, by omega⟩) c1
        rcases Nat.div_eq_zero_iff.1 h2 with h3 | h3
        · have := Nat.pow_pos (n := s) (show 0 < 2 by omega); omega
        · exact h3
      · have : s = 64 := by
          rcases Nat.lt_or_ge 64 s with h3 | h3
          · exact absurd (.inl h3) c1
          · omega
        subst this
        exact hx0
    have hns : n * 2 ^ s < 2 ^ (all + s) := by
      rw [Nat.pow_add]
      exact Nat.mul_lt_mul_of_pos_right hn (Nat.pow_pos (by omega))
    have hle : 2 ^ (all + s) ≤ 2 ^ 64 := Nat.pow_le_pow_right (by omega) (by omega)
    have h64 : (2 : Nat) ^ 64 = 18446744073709551616 := by decide
    rw [Nat.mod_eq_of_lt (by omega), or_low hxs] at h
    have hlt : n * 2 ^ s + x < 2 ^ (all + s) := by
      rw [Nat.pow_add]
      have h1 : (n + 1) * 2 ^ s ≤ 2 ^ all * 2 ^ s := Nat.mul_le_mul_right _ hn
      rw [Nat.add_mul, Nat.one_mul] at h1
      omega
    obtain ⟨g1, g2, g3, g4⟩ := pack_val h hlt (by omega) (fun p hp => hx p (by simp [hp]))
    refine ⟨?_, by simp only [tot]; omega, ?_, ?_⟩
    · simp only [tot, val]
      rw [g1, Nat.add_mul, Nat.pow_add, ← Nat.mul_assoc]
      omega
    · intro p hp
      rcases List.mem_cons.1 hp with rfl | hp
      · exact hxs
      · exact g3 p hp
    · simp only [tot, val]
      rw [Nat.pow_add]
      have h1 : (x + 1) * 2 ^ tot r ≤ 2 ^ s * 2 ^ tot r := Nat.mul_le_mul_right _ hxs
      rw [Nat.add_mul, Nat.one_mul] at h1
      omega

theorem val_drop : ∀ {ps : List (Nat × Nat)} {i x s : Nat}, ps[i]? = some (x, s) → ∃ q, val ps = q * 2 ^ (s + tot (ps.drop (i + 1))) + x * 2 ^ tot (ps.drop (i + 1)) + val (ps.drop (i + 1))
  | [], _, _, _, h => by simp at h
  | (y, t) :: r, 0, x, s, h => by
    simp only [List.getElem?_cons_zero, Option.some.injEq, Prod.mk.injEq] at h
    obtain ⟨rfl, rfl⟩ := h
    exact ⟨0, by simp [val]⟩
  | (y, t) :: r, i + 1, x, s, h => by
    simp only [List.getElem?_cons_succ] at h
    obtain ⟨q, hq⟩ := val_drop h
    have ht : ∃ d, tot r = s + tot (r.drop (i + 1)) + d := by
      have : ∀ {l : List (Nat × Nat)} {j x s : Nat}, l[j]? = some (x, s) → ∃ d, tot l = s + tot (l.drop (j + 1)) + d := by
        intro l
        induction l with
        | nil => intro j x s h; simp at h
        | cons p l ih =>
          intro j x s h
          cases j with
          | zero =>
            simp only [List.getElem?_cons_zero, Option.some.injEq] at h
            subst h
            exact ⟨0, by simp [tot]⟩
          | succ j =>
            obtain ⟨d, hd⟩ := ih (by simpa using h)
            obtain ⟨a, b⟩ := p
            exact ⟨b + d, by simp only [tot, List.drop_succ_cons]; omega⟩
      exact this h
    obtain ⟨d, hd⟩ := ht
    refine ⟨y * 2 ^ d + q, ?_⟩
    simp only [val, List.drop_succ_cons]
    rw [hq, hd, Nat.pow_add, Nat.add_mul]
    generalize 2 ^ (s + tot (List.drop (i + 1) r)) = A
    generalize 2 ^ d = B
    rw [Nat.mul_comm A B, ← Nat.mul_assoc]
    omega

theorem val_lt : ∀ {ps : List (Nat × Nat)}, (∀ p ∈ ps, p.1 < 2 ^ p.2) → val ps < 2 ^ tot ps
  | [], _ => by simp [val, tot]
  | (x, s) :: r, h => by
    have ih := val_lt (ps := r) (fun p hp => h p (by simp [hp]))
    have hx : x < 2 ^ s := h (x, s) (by simp)
    simp only [tot, val]
    rw [Nat.pow_add]
    have h1 : (x + 1) * 2 ^ tot r ≤ 2 ^ s * 2 ^ tot r := Nat.mul_le_mul_right _ hx
    rw [Nat.add_mul, Nat.one_mul] at h1
    omega

theorem pack_bits {ps : List (Nat × Nat)} {m i x s : Nat} (h : packF ps 0 0 = some m) (hx : ∀ p ∈ ps, p.1 < 18446744073709551616) (hi : ps[i]? = some (x, s)) :
    m / 2 ^ tot (ps.drop (i + 1)) % 2 ^ s = x := by
  obtain ⟨g1, _, g3, _⟩ := pack_val h (by decide) (by decide) hx
  obtain ⟨q, hq⟩ := val_drop hi
  have hv : val (ps.drop (i + 1)) < 2 ^ tot (ps.drop (i + 1)) := val_lt fun p hp => g3 p (List.mem_of_mem_drop hp)
  have hxs : x < 2 ^ s := g3 (x, s) (List.mem_of_getElem? hi)
  rw [g1, Nat.zero_mul, Nat.zero_add, hq]
  generalize tot (ps.drop (i + 1)) = T at *
  generalize val (ps.drop (i + 1)) = V at *
  have e : q * 2 ^ (s + T) + x * 2 ^ T + V = V + 2 ^ T * (q * 2 ^ s + x) := by
    rw [Nat.pow_add, ← Nat.mul_assoc, Nat.mul_comm (2 ^ T), Nat.add_mul]
    omega
  rw [e, Nat.add_mul_div_left _ _ (Nat.pow_pos (by omega)), Nat.div_eq_of_lt hv, Nat.zero_add, Nat.mul_comm, Nat.mul_add_mod, Nat.mod_eq_of_lt hxs]

theorem pack_all {ps : List (Nat × Nat)} {m : Nat} (h : packF ps 0 0 = some m) (hx : ∀ p ∈ ps, p.1 < 18446744073709551616) : tot ps ≤ 64 ∧ m < 2 ^ tot ps := by
  obtain ⟨g1, g2, g3, g4⟩ := pack_val h (by decide) (by decide) hx
  refine ⟨by omega, ?_⟩
  rw [g1]; omega

theorem tot_drop (ps : List (Nat × Nat)) {i x s : Nat} (h : ps[i]? = some (x, s)) : tot (ps.drop i) = s + tot (ps.drop (i + 1)) := by
  have hlt : i < ps.length := by
    rcases Nat.lt_or_ge i ps.length with h1 | h1
    · exact h1
    · rw [List.getElem?_eq_none h1] at h; cases h
  rw [List.drop_eq_getElem_cons hlt]
  rw [List.getElem?_eq_getElem hlt] at h
  injection h with h
  rw [h]; rfl

theorem tot_le (ps : List (Nat × Nat)) (i : Nat) : tot (ps.drop i) ≤ tot ps := by
  induction ps generalizing i with
  | nil => simp
  | cons p r ih =>
    cases i with
    | zero => simp
    | succ i =>
      have := ih i
      obtain ⟨x, s⟩ := p
      simp only [List.drop_succ_cons, tot]
      omega

theorem law_OctetPacks (v0 : Value) (h0 : Heap) (a0 : Arg EE h0 52 v0) :
    CallK Try.prog 11 #[v0] h0 fun v h' => v = .bool true ∧ Keep (fun _ => False) h0 h' := by
  obtain ⟨ps, P, cap, rfl, hl0, hP⟩ := arg_pairs a0
  refine CallK.of_vc (EA_ok [77]) [0, 2, 3, 4, 5, 6, 8, 9, 10, 11, 13, 16, 22, 23, 24, 25, 43, 49, 52, 63, 83] Try.func11 rfl (Nat.le_of_ble_eq_true rfl) ?_
  have H := Hp.start h0
  conv => whnf
  repeat (first | (refine cnd_intro (by first | (simp; done) | (simp; omega) | omega | (simp only [Bool.and_eq_true, decide_eq_true_eq]; omega)) ?_; conv => whnf) | (refine Hp.ld H 0 rfl rfl ?_; conv => whnf) | (refine Hp.ld H 1 rfl rfl ?_; conv => whnf) | (refine Hp.ld H 2 rfl rfl ?_; conv => whnf) | (refine Hp.ld H 3 rfl rfl ?_; conv => whnf) | (refine Hp.ld H 4 rfl rfl ?_; conv => whnf) | (refine Hp.ld H 5 rfl rfl ?_; conv => whnf) | (refine Hp.st H 0 rfl rfl rfl rfl rfl ?_; intro h H; conv => whnf) | (refine Hp.st H 1 rfl rfl rfl rfl rfl ?_; intro h H; conv => whnf) | (refine Hp.st H 2 rfl rfl rfl rfl rfl ?_; intro h H; conv => whnf) | (refine Hp.st H 3 rfl rfl rfl rfl rfl ?_; intro h H; conv => whnf) | (refine Hp.st H 4 rfl rfl rfl rfl rfl ?_; intro h H; conv => whnf) | (refine Hp.st H 5 rfl rfl rfl rfl rfl ?_; intro h H; conv => whnf) | (intro b h N; replace H := Hp.new H N; clear N; conv => whnf) | (refine Drawn.mk (by kernel_rfl) ?_; conv => whnf) | (refine FillK.row rfl ?_; conv => whnf) | (refine FillK.lit rfl ?_; conv => whnf) | (refine WrapK.i64 (by omega) (by omega) ?_; conv => whnf) | (refine WrapK.u64 (by omega) (by omega) ?_; conv => whnf) | (refine WrapK.u32 (by omega) (by omega) ?_; conv => whnf) | (refine WrapK.u8 (by omega) (by omega) ?_; conv => whnf) | (refine iteT (by omega) ?_; conv => whnf) | (refine iteF (by omega) ?_; conv => whnf) | (refine iteET (by omega) ?_; conv => whnf) | (refine iteEF (by omega) ?_; conv => whnf) | (refine iteNT (by omega) ?_; conv => whnf) | (refine iteNF (by omega) ?_; conv => whnf))
  refine CallK.mono (lays_call _) ?_
  rintro _ h1 ⟨rfl, k1⟩
  replace H := H.and k1
  by_cases c0 : ps.length > 70
  · conv => whnf
    repeat (first | (refine cnd_intro (by first | (simp; done) | (simp; omega) | omega | (simp only [Bool.and_eq_true, decide_eq_true_eq]; omega)) ?_; conv => whnf) | (refine Hp.ld H 0 rfl rfl ?_; conv => whnf) | (refine Hp.ld H 1 rfl rfl ?_; conv => whnf) | (refine Hp.ld H 2 rfl rfl ?_; conv => whnf) | (refine Hp.ld H 3 rfl rfl ?_; conv => whnf) | (refine Hp.ld H 4 rfl rfl ?_; conv => whnf) | (refine Hp.ld H 5 rfl rfl ?_; conv => whnf) | (refine Hp.st H 0 rfl rfl rfl rfl rfl ?_; intro h H; conv => whnf) | (refine Hp.st H 1 rfl rfl rfl rfl rfl ?_; intro h H; conv => whnf) | (refine Hp.st H 2 rfl rfl rfl rfl rfl ?_; intro h H; conv => whnf) | (refine Hp.st H 3 rfl rfl rfl rfl rfl ?_; intro h H; conv => whnf) | (refine Hp.st H 4 rfl rfl rfl rfl rfl ?_; intro h H; conv => whnf) | (refine Hp.st H 5 rfl rfl rfl rfl rfl ?_; intro h H; conv => whnf) | (intro b h N; replace H := Hp.new H N; clear N; conv => whnf) | (refine Drawn.mk (by kernel_rfl) ?_; conv => whnf) | (refine FillK.row rfl ?_; conv => whnf) | (refine FillK.lit rfl ?_; conv => whnf) | (refine WrapK.i64 (by omega) (by omega) ?_; conv => whnf) | (refine WrapK.u64 (by omega) (by omega) ?_; conv => whnf) | (refine WrapK.u32 (by omega) (by omega) ?_; conv => whnf) | (refine WrapK.u8 (by omega) (by omega) ?_; conv => whnf) | (refine iteT (by omega) ?_; conv => whnf) | (refine iteF (by omega) ?_; conv => whnf) | (refine iteET (by omega) ?_; conv => whnf) | (refine iteEF (by omega) ?_; conv => whnf) | (refine iteNT (by omega) ?_; conv => whnf) | (refine iteNF (by omega) ?_; conv => whnf))
    exact ⟨rfl, H.keep⟩
  conv => whnf
  repeat (first | (refine cnd_intro (by first | (simp; done) | (simp; omega) | omega | (simp only [Bool.and_eq_true, decide_eq_true_eq]; omega)) ?_; conv => whnf) | (refine Hp.ld H 0 rfl rfl ?_; conv => whnf) | (refine Hp.ld H 1 rfl rfl ?_; conv => whnf) | (refine Hp.ld H 2 rfl rfl ?_; conv => whnf) | (refine Hp.ld H 3 rfl rfl ?_; conv => whnf) | (refine Hp.ld H 4 rfl rfl ?_; conv => whnf) | (refine Hp.ld H 5 rfl rfl ?_; conv => whnf) | (refine Hp.st H 0 rfl rfl rfl rfl rfl ?_; intro h H; conv => whnf) | (refine Hp.st H 1 rfl rfl rfl rfl rfl ?_; intro h H; conv => whnf) | (refine Hp.st H 2 rfl rfl rfl rfl rfl ?_; intro h H; conv => whnf) | (refine Hp.st H 3 rfl rfl rfl rfl rfl ?_; intro h H; conv => whnf) | (refine Hp.st H 4 rfl rfl rfl rfl rfl ?_; intro h H; conv => whnf) | (refine Hp.st H 5 rfl rfl rfl rfl rfl ?_; intro h H; conv => whnf) | (intro b h N; replace H := Hp.new H N; clear N; conv => whnf) | (refine Drawn.mk (by kernel_rfl) ?_; conv => whnf) | (refine FillK.row rfl ?_; conv => whnf) | (refine FillK.lit rfl ?_; conv => whnf) | (refine WrapK.i64 (by omega) (by omega) ?_; conv => whnf) | (refine WrapK.u64 (by omega) (by omega) ?_; conv => whnf) | (refine WrapK.u32 (by omega) (by omega) ?_; conv => whnf) | (refine WrapK.u8 (by omega) (by omega) ?_; conv => whnf) | (refine iteT (by omega) ?_; conv => whnf) | (refine iteF (by omega) ?_; conv => whnf) | (refine iteET (by omega) ?_; conv => whnf) | (refine iteEF (by omega) ?_; conv => whnf) | (refine iteNT (by omega) ?_; conv => whnf) | (refine iteNF (by omega) ?_; conv => whnf))
  have hPk := fun i p hp => (⟨(hP i p hp).1.keep H.keep, (hP i p hp).2⟩ : _ ∧ _)
  refine CallK.mono (pack_call _ P ps.length cap ps rfl (by omega) hPk) ?_
  rintro _ h2 ⟨k2, rfl⟩
  replace H := H.and k2
  have hx : ∀ p ∈ ps, p.1 < 18446744073709551616 := by
    intro p hp
    obtain ⟨i, hi⟩ := List.mem_iff_getElem?.1 hp
    exact (hP i p hi).2.1
  cases hpk : packF ps 0 0 with
  | none =>
    conv => whnf
    repeat (first | (refine cnd_intro (by first | (simp; done) | (simp; omega) | omega | (simp only [Bool.and_eq_true, decide_eq_true_eq]; omega)) ?_; conv => whnf) | (refine Hp.ld H 0 rfl rfl ?_; conv => whnf) | (refine Hp.ld H 1 rfl rfl ?_; conv => whnf) | (refine Hp.ld H 2 rfl rfl ?_; conv => whnf) | (refine Hp.ld H 3 rfl rfl ?_; conv => whnf) | (refine Hp.ld H 4 rfl rfl ?_; conv => whnf) | (refine Hp.ld H 5 rfl rfl ?_; conv => whnf) | (refine Hp.st H 0 rfl rfl rfl rfl rfl ?_; intro h H; conv => whnf) | (refine Hp.st H 1 rfl rfl rfl rfl rfl ?_; intro h H; conv => whnf) | (refine Hp.st H 2 rfl rfl rfl rfl rfl ?_; intro h H; conv => whnf) | (refine Hp.st H 3 rfl rfl rfl rfl rfl ?_; intro h H; conv => whnf) | (refine Hp.st H 4 rfl rfl rfl rfl rfl ?_; intro h H; conv => whnf) | (refine Hp.st H 5 rfl rfl rfl rfl rfl ?_; intro h H; conv => whnf) | (intro b h N; replace H := Hp.new H N; clear N; conv => whnf) | (refine Drawn.mk (by kernel_rfl) ?_; conv => whnf) | (refine FillK.row rfl ?_; conv => whnf) | (refine FillK.lit rfl ?_; conv => whnf) | (refine WrapK.i64 (by omega) (by omega) ?_; conv => whnf) | (refine WrapK.u64 (by omega) (by omega) ?_; conv => whnf) | (refine WrapK.u32 (by omega) (by omega) ?_; conv => whnf) | (refine WrapK.u8 (by omega) (by omega) ?_; conv => whnf) | (refine iteT (by omega) ?_; conv => whnf) | (refine iteF (by omega) ?_; conv => whnf) | (refine iteET (by omega) ?_; conv => whnf) | (refine iteEF (by omega) ?_; conv => whnf) | (refine iteNT (by omega) ?_; conv => whnf) | (refine iteNF (by omega) ?_; conv => whnf))
    refine ⟨Nat × Nat × Nat, [0, 2, 3, 4, 22, 23], fun i => [(24, .int .i64 (i.1 : Nat)), (5, .int .u64 (i.2.2 : Nat)), (6, .bool true)], fun i h' => (i.1 ≤ ps.length ∧ i.2.1 < 18446744073709551616 ∧ i.2.2 ≤ 64 ∧ none = packF (ps.drop i.1) i.2.1 i.2.2) ∧ Hp h0 h' [], fun i => ps.length - i.1, ?_⟩
    conv => whnf
    refine ⟨⟨(0, 0, 0), ⟨rfl, rfl, rfl, trivial⟩, ⟨by show 0 ≤ ps.length; omega, by decide, by decide, hpk.symm⟩, H⟩, ?_⟩
    clear H
    rintro ⟨i, n, all⟩ h3 ⟨⟨iA, hn, hall, hp⟩, H⟩
    dsimp only at iA hn hall hp ⊢
    conv => whnf
    refine iteD (fun r => ?_) (fun r => ?_)
    · obtain ⟨⟨x, s⟩, hpi⟩ := list_at (L := ps) (i := i) (by omega)
      obtain ⟨hel, hx, hs⟩ := hP i _ hpi
      have hel := hel.keep H.keep
      obtain ⟨sb, so, rfl⟩ := hel.some
      have hlt : i < ps.length := by omega
      rw [List.drop_eq_getElem_cons hlt] at hp
      rw [List.getElem?_eq_getElem hlt] at hpi
      injection hpi with hpi
      rw [hpi] at hp
      simp only [packF] at hp
      conv => whnf
      repeat (first | (refine cnd_intro (by first | (simp; done) | (simp; omega) | omega | (simp only [Bool.and_eq_true, decide_eq_true_eq]; omega)) ?_; conv => whnf) | (refine Hp.ld H 0 rfl rfl ?_; conv => whnf) | (refine Hp.ld H 1 rfl rfl ?_; conv => whnf) | (refine Hp.ld H 2 rfl rfl ?_; conv => whnf) | (refine Hp.ld H 3 rfl rfl ?_; conv => whnf) | (refine Hp.ld H 4 rfl rfl ?_; conv => whnf) | (refine Hp.ld H 5 rfl rfl ?_; conv => whnf) | (refine Hp.st H 0 rfl rfl rfl rfl rfl ?_; intro h H; conv => whnf) | (refine Hp.st H 1 rfl rfl rfl rfl rfl ?_; intro h H; conv => whnf) | (refine Hp.st H 2 rfl rfl rfl rfl rfl ?_; intro h H; conv => whnf) | (refine Hp.st H 3 rfl rfl rfl rfl rfl ?_; intro h H; conv => whnf) | (refine Hp.st H 4 rfl rfl rfl rfl rfl ?_; intro h H; conv => whnf) | (refine Hp.st H 5 rfl rfl rfl rfl rfl ?_; intro h H; conv => whnf) | (intro b h N; replace H := Hp.new H N; clear N; conv => whnf) | (refine Drawn.mk (by kernel_rfl) ?_; conv => whnf) | (refine FillK.row rfl ?_; conv => whnf) | (refine FillK.lit rfl ?_; conv => whnf) | (refine WrapK.i64 (by omega) (by omega) ?_; conv => whnf) | (refine WrapK.u64 (by omega) (by omega) ?_; conv => whnf) | (refine WrapK.u32 (by omega) (by omega) ?_; conv => whnf) | (refine WrapK.u8 (by omega) (by omega) ?_; conv => whnf) | (refine iteT (by omega) ?_; conv => whnf) | (refine iteF (by omega) ?_; conv => whnf) | (refine iteET (by omega) ?_; conv => whnf) | (refine iteEF (by omega) ?_; conv => whnf) | (refine iteNT (by omega) ?_; conv => whnf) | (refine iteNF (by omega) ?_; conv => whnf))
      refine LdK.elem hel (y := ⟨.array 2 37, 2, 16, true, some (.agg #[.int .u64 0, .int .u64 0])⟩) rfl (by first | omega | (simp; done) | (simp; omega)) (.inl rfl) ?_
      conv => whnf
      repeat (first | (refine cnd_intro (by first | (simp; done) | (simp; omega) | omega | (simp only [Bool.and_eq_true, decide_eq_true_eq]; omega)) ?_; conv => whnf) | (refine Hp.ld H 0 rfl rfl ?_; conv => whnf) | (refine Hp.ld H 1 rfl rfl ?_; conv => whnf) | (refine Hp.ld H 2 rfl rfl ?_; conv => whnf) | (refine Hp.ld H 3 rfl rfl ?_; conv => whnf) | (refine Hp.ld H 4 rfl rfl ?_; conv => whnf) | (refine Hp.ld H 5 rfl rfl ?_; conv => whnf) | (refine Hp.st H 0 rfl rfl rfl rfl rfl ?_; intro h H; conv => whnf) | (refine Hp.st H 1 rfl rfl rfl rfl rfl ?_; intro h H; conv => whnf) | (refine Hp.st H 2 rfl rfl rfl rfl rfl ?_; intro h H; conv => whnf) | (refine Hp.st H 3 rfl rfl rfl rfl rfl ?_; intro h H; conv => whnf) | (refine Hp.st H 4 rfl rfl rfl rfl rfl ?_; intro h H; conv => whnf) | (refine Hp.st H 5 rfl rfl rfl rfl rfl ?_; intro h H; conv => whnf) | (intro b h N; replace H := Hp.new H N; clear N; conv => whnf) | (refine Drawn.mk (by kernel_rfl) ?_; conv => whnf) | (refine FillK.row rfl ?_; conv => whnf) | (refine FillK.lit rfl ?_; conv => whnf) | (refine WrapK.i64 (by omega) (by omega) ?_; conv => whnf) | (refine WrapK.u64 (by omega) (by omega) ?_; conv => whnf) | (refine WrapK.u32 (by omega) (by omega) ?_; conv => whnf) | (refine WrapK.u8 (by omega) (by omega) ?_; conv => whnf))
      dsimp only
      by_cases c1 : s > 64
      · conv => whnf
        repeat (first | (refine cnd_intro (by first | (simp; done) | (simp; omega) | omega | (simp only [Bool.and_eq_true, decide_eq_true_eq]; omega)) ?_; conv => whnf) | (refine Hp.ld H 0 rfl rfl ?_; conv => whnf) | (refine Hp.ld H 1 rfl rfl ?_; conv => whnf) | (refine Hp.ld H 2 rfl rfl ?_; conv => whnf) | (refine Hp.ld H 3 rfl rfl ?_; conv => whnf) | (refine Hp.ld H 4 rfl rfl ?_; conv => whnf) | (refine Hp.ld H 5 rfl rfl ?_; conv => whnf) | (refine Hp.st H 0 rfl rfl rfl rfl rfl ?_; intro h H; conv => whnf) | (refine Hp.st H 1 rfl rfl rfl rfl rfl ?_; intro h H; conv => whnf) | (refine Hp.st H 2 rfl rfl rfl rfl rfl ?_; intro h H; conv => whnf) | (refine Hp.st H 3 rfl rfl rfl rfl rfl ?_; intro h H; conv => whnf) | (refine Hp.st H 4 rfl rfl rfl rfl rfl ?_; intro h H; conv => whnf) | (refine Hp.st H 5 rfl rfl rfl rfl rfl ?_; intro h H; conv => whnf) | (intro b h N; replace H := Hp.new H N; clear N; conv => whnf) | (refine Drawn.mk (by kernel_rfl) ?_; conv => whnf) | (refine FillK.row rfl ?_; conv => whnf) | (refine FillK.lit rfl ?_; conv => whnf) | (refine WrapK.i64 (by omega) (by omega) ?_; conv => whnf) | (refine WrapK.u64 (by omega) (by omega) ?_; conv => whnf) | (refine WrapK.u32 (by omega) (by omega) ?_; conv => whnf) | (refine WrapK.u8 (by omega) (by omega) ?_; conv => whnf) | (refine iteT (by omega) ?_; conv => whnf) | (refine iteF (by omega) ?_; conv => whnf) | (refine iteET (by omega) ?_; conv => whnf) | (refine iteEF (by omega) ?_; conv => whnf) | (refine iteNT (by omega) ?_; conv => whnf) | (refine iteNF (by omega) ?_; conv => whnf))
        exact ⟨rfl, H.keep⟩
      by_cases c2 : s < 64
      case' pos =>
        conv => whnf
        repeat (first | (refine cnd_intro (by first | (simp; done) | (simp; omega) | omega | (simp only [Bool.and_eq_true, decide_eq_true_eq]; omega)) ?_; conv => whnf) | (refine Hp.ld H 0 rfl rfl ?_; conv => whnf) | (refine Hp.ld H 1 rfl rfl ?_; conv => whnf) | (refine Hp.ld H 2 rfl rfl ?_; conv => whnf) | (refine Hp.ld H 3 rfl rfl ?_; conv => whnf) | (refine Hp.ld H 4 rfl rfl ?_; conv => whnf) | (refine Hp.ld H 5 rfl rfl ?_; conv => whnf) | (refine Hp.st H 0 rfl rfl rfl rfl rfl ?_; intro h H; conv => whnf) | (refine Hp.st H 1 rfl rfl rfl rfl rfl ?_; intro h H; conv => whnf) | (refine Hp.st H 2 rfl rfl rfl rfl rfl ?_; intro h H; conv => whnf) | (refine Hp.st H 3 rfl rfl rfl rfl rfl ?_; intro h H; conv => whnf) | (refine Hp.st H 4 rfl rfl rfl rfl rfl ?_; intro h H; conv => whnf) | (refine Hp.st H 5 rfl rfl rfl rfl rfl ?_; intro h H; conv => whnf) | (intro b h N; replace H := Hp.new H N; clear N; conv => whnf) | (refine Drawn.mk (by kernel_rfl) ?_; conv => whnf) | (refine FillK.row rfl ?_; conv => whnf) | (refine FillK.lit rfl ?_; conv => whnf) | (refine WrapK.i64 (by omega) (by omega) ?_; conv => whnf) | (refine WrapK.u64 (by omega) (by omega) ?_; conv => whnf) | (refine WrapK.u32 (by omega) (by omega) ?_; conv => whnf) | (refine WrapK.u8 (by omega) (by omega) ?_; conv => whnf) | (refine iteT (by omega) ?_; conv => whnf) | (refine iteF (by omega) ?_; conv => whnf) | (refine iteET (by omega) ?_; conv => whnf) | (refine iteEF (by omega) ?_; conv => whnf) | (refine iteNT (by omega) ?_; conv => whnf) | (refine iteNF (by omega) ?_; conv => whnf))
        rw [bShr_u64 hx]
        conv => whnf
        repeat (first | (refine cnd_intro (by first | (simp; done) | (simp; omega) | omega | (simp only [Bool.and_eq_true, decide_eq_true_eq]; omega)) ?_; conv => whnf) | (refine Hp.ld H 0 rfl rfl ?_; conv => whnf) | (refine Hp.ld H 1 rfl rfl ?_; conv => whnf) | (refine Hp.ld H 2 rfl rfl ?_; conv => whnf) | (refine Hp.ld H 3 rfl rfl ?_; conv => whnf) | (refine Hp.ld H 4 rfl rfl ?_; conv => whnf) | (refine Hp.ld H 5 rfl rfl ?_; conv => whnf) | (refine Hp.st H 0 rfl rfl rfl rfl rfl ?_; intro h H; conv => whnf) | (refine Hp.st H 1 rfl rfl rfl rfl rfl ?_; intro h H; conv => whnf) | (refine Hp.st H 2 rfl rfl rfl rfl rfl ?_; intro h H; conv => whnf) | (refine Hp.st H 3 rfl rfl rfl rfl rfl ?_; intro h H; conv => whnf) | (refine Hp.st H 4 rfl rfl rfl rfl rfl ?_; intro h H; conv => whnf) | (refine Hp.st H 5 rfl rfl rfl rfl rfl ?_; intro h H; conv => whnf) | (intro b h N; replace H := Hp.new H N; clear N; conv => whnf) | (refine Drawn.mk (by kernel_rfl) ?_; conv => whnf) | (refine FillK.row rfl ?_; conv => whnf) | (refine FillK.lit rfl ?_; conv => whnf) | (refine WrapK.i64 (by omega) (by omega) ?_; conv => whnf) | (refine WrapK.u64 (by omega) (by omega) ?_; conv => whnf) | (refine WrapK.u32 (by omega) (by omega) ?_; conv => whnf) | (refine WrapK.u8 (by omega) (by omega) ?_; conv => whnf))
        refine iteN (fun w => ?_) (fun w => ?_)
        · conv => whnf
          repeat (first | (refine cnd_intro (by first | (simp; done) | (simp; omega) | omega | (simp only [Bool.and_eq_true, decide_eq_true_eq]; omega)) ?_; conv => whnf) | (refine Hp.ld H 0 rfl rfl ?_; conv => whnf) | (refine Hp.ld H 1 rfl rfl ?_; conv => whnf) | (refine Hp.ld H 2 rfl rfl ?_; conv => whnf) | (refine Hp.ld H 3 rfl rfl ?_; conv => whnf) | (refine Hp.ld H 4 rfl rfl ?_; conv => whnf) | (refine Hp.ld H 5 rfl rfl ?_; conv => whnf) | (refine Hp.st H 0 rfl rfl rfl rfl rfl ?_; intro h H; conv => whnf) | (refine Hp.st H 1 rfl rfl rfl rfl rfl ?_; intro h H; conv => whnf) | (refine Hp.st H 2 rfl rfl rfl rfl rfl ?_; intro h H; conv => whnf) | (refine Hp.st H 3 rfl rfl rfl rfl rfl ?_; intro h H; conv => whnf) | (refine Hp.st H 4 rfl rfl rfl rfl rfl ?_; intro h H; conv => whnf) | (refine Hp.st H 5 rfl rfl rfl rfl rfl ?_; intro h H; conv => whnf) | (intro b h N; replace H := Hp.new H N; clear N; conv => whnf) | (refine Drawn.mk (by kernel_rfl) ?_; conv => whnf) | (refine FillK.row rfl ?_; conv => whnf) | (refine FillK.lit rfl ?_; conv => whnf) | (refine WrapK.i64 (by omega) (by omega) ?_; conv => whnf) | (refine WrapK.u64 (by omega) (by omega) ?_; conv => whnf) | (refine WrapK.u32 (by omega) (by omega) ?_; conv => whnf) | (refine WrapK.u8 (by omega) (by omega) ?_; conv => whnf) | (refine iteT (by omega) ?_; conv => whnf) | (refine iteF (by omega) ?_; conv => whnf) | (refine iteET (by omega) ?_; conv => whnf) | (refine iteEF (by omega) ?_; conv => whnf) | (refine iteNT (by omega) ?_; conv => whnf) | (refine iteNF (by omega) ?_; conv => whnf))
          exact ⟨rfl, H.keep⟩
        have w : x / 2 ^ s = 0 := Int.ofNat_eq_zero.1 w
        rw [if_neg (by rintro (h | ⟨_, h⟩); · omega
                       · exact h w)] at hp
      case' neg =>
        rw [if_neg (by rintro (h | ⟨_, h⟩) <;> omega)] at hp
      all_goals
        by_cases c3 : all + s > 64
        · conv => whnf
          repeat (first | (refine cnd_intro (by first | (simp; done) | (simp; omega) | omega | (simp only [Bool.and_eq_true, decide_eq_true_eq]; omega)) ?_; conv => whnf) | (refine Hp.ld H 0 rfl rfl ?_; conv => whnf) | (refine Hp.ld H 1 rfl rfl ?_; conv => whnf) | (refine Hp.ld H 2 rfl rfl ?_; conv => whnf) | (refine Hp.ld H 3 rfl rfl ?_; conv => whnf) | (refine Hp.ld H 4 rfl rfl ?_; conv => whnf) | (refine Hp.ld H 5 rfl rfl ?_; conv => whnf) | (refine Hp.st H 0 rfl rfl rfl rfl rfl ?_; intro h H; conv => whnf) | (refine Hp.st H 1 rfl rfl rfl rfl rfl ?_; intro h H; conv => whnf) | (refine Hp.st H 2 rfl rfl rfl rfl rfl ?_; intro h H; conv => whnf) | (refine Hp.st H 3 rfl rfl rfl rfl rfl ?_; intro h H; conv => whnf) | (refine Hp.st H 4 rfl rfl rfl rfl rfl ?_; intro h H; conv => whnf) | (refine Hp.st H 5 rfl rfl rfl rfl rfl ?_; intro h H; conv => whnf) | (intro b h N; replace H := Hp.new H N; clear N; conv => whnf) | (refine Drawn.mk (by kernel_rfl) ?_; conv => whnf) | (refine FillK.row rfl ?_; conv => whnf) | (refine FillK.lit rfl ?_; conv => whnf) | (refine WrapK.i64 (by omega) (by omega) ?_; conv => whnf) | (refine WrapK.u64 (by omega) (by omega) ?_; conv => whnf) | (refine WrapK.u32 (by omega) (by omega) ?_; conv => whnf) | (refine WrapK.u8 (by omega) (by omega) ?_; conv => whnf) | (refine iteT (by omega) ?_; conv => whnf) | (refine iteF (by omega) ?_; conv => whnf) | (refine iteET (by omega) ?_; conv => whnf) | (refine iteEF (by omega) ?_; conv => whnf) | (refine iteNT (by omega) ?_; conv => whnf) | (refine iteNF (by omega) ?_; conv => whnf))
          exact ⟨rfl, H.keep⟩
        rw [if_neg c3] at hp
        have hlt2 : n * 2 ^ s % 18446744073709551616 ||| x < 18446744073709551616 := Nat.or_lt_two_pow (n := 64) (Nat.mod_lt _ (by decide)) hx
        conv => whnf
        repeat (first | (refine cnd_intro (by first | (simp; done) | (simp; omega) | omega | (simp only [Bool.and_eq_true, decide_eq_true_eq]; omega)) ?_; conv => whnf) | (refine Hp.ld H 0 rfl rfl ?_; conv => whnf) | (refine Hp.ld H 1 rfl rfl ?_; conv => whnf) | (refine Hp.ld H 2 rfl rfl ?_; conv => whnf) | (refine Hp.ld H 3 rfl rfl ?_; conv => whnf) | (refine Hp.ld H 4 rfl rfl ?_; conv => whnf) | (refine Hp.ld H 5 rfl rfl ?_; conv => whnf) | (refine Hp.st H 0 rfl rfl rfl rfl rfl ?_; intro h H; conv => whnf) | (refine Hp.st H 1 rfl rfl rfl rfl rfl ?_; intro h H; conv => whnf) | (refine Hp.st H 2 rfl rfl rfl rfl rfl ?_; intro h H; conv => whnf) | (refine Hp.st H 3 rfl rfl rfl rfl rfl ?_; intro h H; conv => whnf) | (refine Hp.st H 4 rfl rfl rfl rfl rfl ?_; intro h H; conv => whnf) | (refine Hp.st H 5 rfl rfl rfl rfl rfl ?_; intro h H; conv => whnf) | (intro b h N; replace H := Hp.new H N; clear N; conv => whnf) | (refine Drawn.mk (by kernel_rfl) ?_; conv => whnf) | (refine FillK.row rfl ?_; conv => whnf) | (refine FillK.lit rfl ?_; conv => whnf) | (refine WrapK.i64 (by omega) (by omega) ?_; conv => whnf) | (refine WrapK.u64 (by omega) (by omega) ?_; conv => whnf) | (refine WrapK.u32 (by omega) (by omega) ?_; conv => whnf) | (refine WrapK.u8 (by omega) (by omega) ?_; conv => whnf) | (refine iteT (by omega) ?_; conv => whnf) | (refine iteF (by omega) ?_; conv => whnf) | (refine iteET (by omega) ?_; conv => whnf) | (refine iteEF (by omega) ?_; conv => whnf) | (refine iteNT (by omega) ?_; conv => whnf) | (refine iteNF (by omega) ?_; conv => whnf))
        exact ⟨(i + 1, n * 2 ^ s % 18446744073709551616 ||| x, all + s), ⟨(by first | rfl | (show Value.int .i64 _ = _; congr 1; omega) | (show Value.int .i64 _ = _; rw [wrap64_id (by omega) (by omega)]; first | rfl | (congr 1; omega))), rfl, rfl, trivial⟩, (by repeat (first | exact trivial | refine ⟨rfl, ?_⟩)), ⟨⟨by show i + 1 ≤ ps.length; omega, hlt2, by show all + s ≤ 64; omega, hp⟩, H.drop 0⟩, by show ps.length - (i + 1) < ps.length - i; omega⟩
    · exfalso
      rw [List.drop_of_length_le (by omega)] at hp
      simp [packF] at hp
  | some m =>
    obtain ⟨hall64, hm⟩ := pack_all hpk hx
    conv => whnf
    repeat (first | (refine cnd_intro (by first | (simp; done) | (simp; omega) | omega | (simp only [Bool.and_eq_true, decide_eq_true_eq]; omega)) ?_; conv => whnf) | (refine Hp.ld H 0 rfl rfl ?_; conv => whnf) | (refine Hp.ld H 1 rfl rfl ?_; conv => whnf) | (refine Hp.ld H 2 rfl rfl ?_; conv => whnf) | (refine Hp.ld H 3 rfl rfl ?_; conv => whnf) | (refine Hp.ld H 4 rfl rfl ?_; conv => whnf) | (refine Hp.ld H 5 rfl rfl ?_; conv => whnf) | (refine Hp.st H 0 rfl rfl rfl rfl rfl ?_; intro h H; conv => whnf) | (refine Hp.st H 1 rfl rfl rfl rfl rfl ?_; intro h H; conv => whnf) | (refine Hp.st H 2 rfl rfl rfl rfl rfl ?_; intro h H; conv => whnf) | (refine Hp.st H 3 rfl rfl rfl rfl rfl ?_; intro h H; conv => whnf) | (refine Hp.st H 4 rfl rfl rfl rfl rfl ?_; intro h H; conv => whnf) | (refine Hp.st H 5 rfl rfl rfl rfl rfl ?_; intro h H; conv => whnf) | (intro b h N; replace H := Hp.new H N; clear N; conv => whnf) | (refine Drawn.mk (by kernel_rfl) ?_; conv => whnf) | (refine FillK.row rfl ?_; conv => whnf) | (refine FillK.lit rfl ?_; conv => whnf) | (refine WrapK.i64 (by omega) (by omega) ?_; conv => whnf) | (refine WrapK.u64 (by omega) (by omega) ?_; conv => whnf) | (refine WrapK.u32 (by omega) (by omega) ?_; conv => whnf) | (refine WrapK.u8 (by omega) (by omega) ?_; conv => whnf) | (refine iteT (by omega) ?_; conv => whnf) | (refine iteF (by omega) ?_; conv => whnf) | (refine iteET (by omega) ?_; conv => whnf) | (refine iteEF (by omega) ?_; conv => whnf) | (refine iteNT (by omega) ?_; conv => whnf) | (refine iteNF (by omega) ?_; conv => whnf))
    refine ⟨Nat × Nat × Nat, [0, 2, 3, 4, 22, 23], fun i => [(24, .int .i64 (i.1 : Nat)), (5, .int .u64 (i.2.2 : Nat)), (6, .bool true)], fun i h' => (i.1 ≤ ps.length ∧ i.2.1 < 18446744073709551616 ∧ i.2.2 ≤ 64 ∧ some m = packF (ps.drop i.1) i.2.1 i.2.2) ∧ Hp h0 h' [], fun i => ps.length - i.1, ?_⟩
    conv => whnf
    refine ⟨⟨(0, 0, 0), ⟨rfl, rfl, rfl, trivial⟩, ⟨by show 0 ≤ ps.length; omega, by decide, by decide, hpk.symm⟩, H⟩, ?_⟩
    clear H
    rintro ⟨i, n, all⟩ h3 ⟨⟨iA, hn, hall, hp⟩, H⟩
    dsimp only at iA hn hall hp ⊢
    conv => whnf
    refine iteD (fun r => ?_) (fun r => ?_)
    · obtain ⟨⟨x, s⟩, hpi⟩ := list_at (L := ps) (i := i) (by omega)
      obtain ⟨hel, hx, hs⟩ := hP i _ hpi
      have hel := hel.keep H.keep
      obtain ⟨sb, so, rfl⟩ := hel.some
      have hlt : i < ps.length := by omega
      rw [List.drop_eq_getElem_cons hlt] at hp
      rw [List.getElem?_eq_getElem hlt] at hpi
      injection hpi with hpi
      rw [hpi] at hp
      simp only [packF] at hp
      have c1 : ¬ (s > 64 ∨ (s < 64 ∧ x / 2 ^ s ≠ 0)) := by
        intro c; rw [if_pos c] at hp; cases hp
      rw [if_neg c1] at hp
      have c3 : ¬ all + s > 64 := by
        intro c; rw [if_pos c] at hp; cases hp
      rw [if_neg c3] at hp
      have hlt2 : n * 2 ^ s % 18446744073709551616 ||| x < 18446744073709551616 := Nat.or_lt_two_pow (n := 64) (Nat.mod_lt _ (by decide)) hx
      conv => whnf
      repeat (first | (refine cnd_intro (by first | (simp; done) | (simp; omega) | omega | (simp only [Bool.and_eq_true, decide_eq_true_eq]; omega)) ?_; conv => whnf) | (refine Hp.ld H 0 rfl rfl ?_; conv => whnf) | (refine Hp.ld H 1 rfl rfl ?_; conv => whnf) | (refine Hp.ld H 2 rfl rfl ?_; conv => whnf) | (refine Hp.ld H 3 rfl rfl ?_; conv => whnf) | (refine Hp.ld H 4 rfl rfl ?_; conv => whnf) | (refine Hp.ld H 5 rfl rfl ?_; conv => whnf) | (refine Hp.st H 0 rfl rfl rfl rfl rfl ?_; intro h H; conv => whnf) | (refine Hp.st H 1 rfl rfl rfl rfl rfl ?_; intro h H; conv => whnf) | (refine Hp.st H 2 rfl rfl rfl rfl rfl ?_; intro h H; conv => whnf) | (refine Hp.st H 3 rfl rfl rfl rfl rfl ?_; intro h H; conv => whnf) | (refine Hp.st H 4 rfl rfl rfl rfl rfl ?_; intro h H; conv => whnf) | (refine Hp.st H 5 rfl rfl rfl rfl rfl ?_; intro h H; conv => whnf) | (intro b h N; replace H := Hp.new H N; clear N; conv => whnf) | (refine Drawn.mk (by kernel_rfl) ?_; conv => whnf) | (refine FillK.row rfl ?_; conv => whnf) | (refine FillK.lit rfl ?_; conv => whnf) | (refine WrapK.i64 (by omega) (by omega) ?_; conv => whnf) | (refine WrapK.u64 (by omega) (by omega) ?_; conv => whnf) | (refine WrapK.u32 (by omega) (by omega) ?_; conv => whnf) | (refine WrapK.u8 (by omega) (by omega) ?_; conv => whnf) | (refine iteT (by omega) ?_; conv => whnf) | (refine iteF (by omega) ?_; conv => whnf) | (refine iteET (by omega) ?_; conv => whnf) | (refine iteEF (by omega) ?_; conv => whnf) | (refine iteNT (by omega) ?_; conv => whnf) | (refine iteNF (by omega) ?_; conv => whnf))
      refine LdK.elem hel (y := ⟨.array 2 37, 2, 16, true, some (.agg #[.int .u64 0, .int .u64 0])⟩) rfl (by first | omega | (simp; done) | (simp; omega)) (.inl rfl) ?_
      conv => whnf
      repeat (first | (refine cnd_intro (by first | (simp; done) | (simp; omega) | omega | (simp only [Bool.and_eq_true, decide_eq_true_eq]; omega)) ?_; conv => whnf) | (refine Hp.ld H 0 rfl rfl ?_; conv => whnf) | (refine Hp.ld H 1 rfl rfl ?_; conv => whnf) | (refine Hp.ld H 2 rfl rfl ?_; conv => whnf) | (refine Hp.ld H 3 rfl rfl ?_; conv => whnf) | (refine Hp.ld H 4 rfl rfl ?_; conv => whnf) | (refine Hp.ld H 5 rfl rfl ?_; conv => whnf) | (refine Hp.st H 0 rfl rfl rfl rfl rfl ?_; intro h H; conv => whnf) | (refine Hp.st H 1 rfl rfl rfl rfl rfl ?_; intro h H; conv => whnf) | (refine Hp.st H 2 rfl rfl rfl rfl rfl ?_; intro h H; conv => whnf) | (refine Hp.st H 3 rfl rfl rfl rfl rfl ?_; intro h H; conv => whnf) | (refine Hp.st H 4 rfl rfl rfl rfl rfl ?_; intro h H; conv => whnf) | (refine Hp.st H 5 rfl rfl rfl rfl rfl ?_; intro h H; conv => whnf) | (intro b h N; replace H := Hp.new H N; clear N; conv => whnf) | (refine Drawn.mk (by kernel_rfl) ?_; conv => whnf) | (refine FillK.row rfl ?_; conv => whnf) | (refine FillK.lit rfl ?_; conv => whnf) | (refine WrapK.i64 (by omega) (by omega) ?_; conv => whnf) | (refine WrapK.u64 (by omega) (by omega) ?_; conv => whnf) | (refine WrapK.u32 (by omega) (by omega) ?_; conv => whnf) | (refine WrapK.u8 (by omega) (by omega) ?_; conv => whnf))
      dsimp only
      by_cases c2 : s < 64
      case' pos =>
        have w : x / 2 ^ s = 0 := by
          rcases Nat.eq_zero_or_pos (x / 2 ^ s) with h | h
          · exact h
          · exact absurd (.inr ⟨c2, by omega⟩) c1
        conv => whnf
        repeat (first | (refine cnd_intro (by first | (simp; done) | (simp; omega) | omega | (simp only [Bool.and_eq_true, decide_eq_true_eq]; omega)) ?_; conv => whnf) | (refine Hp.ld H 0 rfl rfl ?_; conv => whnf) | (refine Hp.ld H 1 rfl rfl ?_; conv => whnf) | (refine Hp.ld H 2 rfl rfl ?_; conv => whnf) | (refine Hp.ld H 3 rfl rfl ?_; conv => whnf) | (refine Hp.ld H 4 rfl rfl ?_; conv => whnf) | (refine Hp.ld H 5 rfl rfl ?_; conv => whnf) | (refine Hp.st H 0 rfl rfl rfl rfl rfl ?_; intro h H; conv => whnf) | (refine Hp.st H 1 rfl rfl rfl rfl rfl ?_; intro h H; conv => whnf) | (refine Hp.st H 2 rfl rfl rfl rfl rfl ?_; intro h H; conv => whnf) | (refine Hp.st H 3 rfl rfl rfl rfl rfl ?_; intro h H; conv => whnf) | (refine Hp.st H 4 rfl rfl rfl rfl rfl ?_; intro h H; conv => whnf) | (refine Hp.st H 5 rfl rfl rfl rfl rfl ?_; intro h H; conv => whnf) | (intro b h N; replace H := Hp.new H N; clear N; conv => whnf) | (refine Drawn.mk (by kernel_rfl) ?_; conv => whnf) | (refine FillK.row rfl ?_; conv => whnf) | (refine FillK.lit rfl ?_; conv => whnf) | (refine WrapK.i64 (by omega) (by omega) ?_; conv => whnf) | (refine WrapK.u64 (by omega) (by omega) ?_; conv => whnf) | (refine WrapK.u32 (by omega) (by omega) ?_; conv => whnf) | (refine WrapK.u8 (by omega) (by omega) ?_; conv => whnf) | (refine iteT (by omega) ?_; conv => whnf) | (refine iteF (by omega) ?_; conv => whnf) | (refine iteET (by omega) ?_; conv => whnf) | (refine iteEF (by omega) ?_; conv => whnf) | (refine iteNT (by omega) ?_; conv => whnf) | (refine iteNF (by omega) ?_; conv => whnf))
        rw [bShr_u64 hx, w]
      all_goals
        conv => whnf
        repeat (first | (refine cnd_intro (by first | (simp; done) | (simp; omega) | omega | (simp only [Bool.and_eq_true, decide_eq_true_eq]; omega)) ?_; conv => whnf) | (refine Hp.ld H 0 rfl rfl ?_; conv => whnf) | (refine Hp.ld H 1 rfl rfl ?_; conv => whnf) | (refine Hp.ld H 2 rfl rfl ?_; conv => whnf) | (refine Hp.ld H 3 rfl rfl ?_; conv => whnf) | (refine Hp.ld H 4 rfl rfl ?_; conv => whnf) | (refine Hp.ld H 5 rfl rfl ?_; conv => whnf) | (refine Hp.st H 0 rfl rfl rfl rfl rfl ?_; intro h H; conv => whnf) | (refine Hp.st H 1 rfl rfl rfl rfl rfl ?_; intro h H; conv => whnf) | (refine Hp.st H 2 rfl rfl rfl rfl rfl ?_; intro h H; conv => whnf) | (refine Hp.st H 3 rfl rfl rfl rfl rfl ?_; intro h H; conv => whnf) | (refine Hp.st H 4 rfl rfl rfl rfl rfl ?_; intro h H; conv => whnf) | (refine Hp.st H 5 rfl rfl rfl rfl rfl ?_; intro h H; conv => whnf) | (intro b h N; replace H := Hp.new H N; clear N; conv => whnf) | (refine Drawn.mk (by kernel_rfl) ?_; conv => whnf) | (refine FillK.row rfl ?_; conv => whnf) | (refine FillK.lit rfl ?_; conv => whnf) | (refine WrapK.i64 (by omega) (by omega) ?_; conv => whnf) | (refine WrapK.u64 (by omega) (by omega) ?_; conv => whnf) | (refine WrapK.u32 (by omega) (by omega) ?_; conv => whnf) | (refine WrapK.u8 (by omega) (by omega) ?_; conv => whnf) | (refine iteT (by omega) ?_; conv => whnf) | (refine iteF (by omega) ?_; conv => whnf) | (refine iteET (by omega) ?_; conv => whnf) | (refine iteEF (by omega) ?_; conv => whnf) | (refine iteNT (by omega) ?_; conv => whnf) | (refine iteNF (by omega) ?_; conv => whnf))
        exact ⟨(i + 1, n * 2 ^ s % 18446744073709551616 ||| x, all + s), ⟨(by first | rfl | (show Value.int .i64 _ = _; congr 1; omega) | (show Value.int .i64 _ = _; rw [wrap64_id (by omega) (by omega)]; first | rfl | (congr 1; omega))), rfl, rfl, trivial⟩, (by repeat (first | exact trivial | refine ⟨rfl, ?_⟩)), ⟨⟨by show i + 1 ≤ ps.length; omega, hlt2, by show all + s ≤ 64; omega, hp⟩, H.drop 0⟩, by show ps.length - (i + 1) < ps.length - i; omega⟩
    · conv => whnf
      repeat (first | (refine cnd_intro (by first | (simp; done) | (simp; omega) | omega | (simp only [Bool.and_eq_true, decide_eq_true_eq]; omega)) ?_; conv => whnf) | (refine Hp.ld H 0 rfl rfl ?_; conv => whnf) | (refine Hp.ld H 1 rfl rfl ?_; conv => whnf) | (refine Hp.ld H 2 rfl rfl ?_; conv => whnf) | (refine Hp.ld H 3 rfl rfl ?_; conv => whnf) | (refine Hp.ld H 4 rfl rfl ?_; conv => whnf) | (refine Hp.ld H 5 rfl rfl ?_; conv => whnf) | (refine Hp.st H 0 rfl rfl rfl rfl rfl ?_; intro h H; conv => whnf) | (refine Hp.st H 1 rfl rfl rfl rfl rfl ?_; intro h H; conv => whnf) | (refine Hp.st H 2 rfl rfl rfl rfl rfl ?_; intro h H; conv => whnf) | (refine Hp.st H 3 rfl rfl rfl rfl rfl ?_; intro h H; conv => whnf) | (refine Hp.st H 4 rfl rfl rfl rfl rfl ?_; intro h H; conv => whnf) | (refine Hp.st H 5 rfl rfl rfl rfl rfl ?_; intro h H; conv => whnf) | (intro b h N; replace H := Hp.new H N; clear N; conv => whnf) | (refine Drawn.mk (by kernel_rfl) ?_; conv => whnf) | (refine FillK.row rfl ?_; conv => whnf) | (refine FillK.lit rfl ?_; conv => whnf) | (refine WrapK.i64 (by omega) (by omega) ?_; conv => whnf) | (refine WrapK.u64 (by omega) (by omega) ?_; conv => whnf) | (refine WrapK.u32 (by omega) (by omega) ?_; conv => whnf) | (refine WrapK.u8 (by omega) (by omega) ?_; conv => whnf) | (refine iteT (by omega) ?_; conv => whnf) | (refine iteF (by omega) ?_; conv => whnf) | (refine iteET (by omega) ?_; conv => whnf) | (refine iteEF (by omega) ?_; conv => whnf) | (refine iteNT (by omega) ?_; conv => whnf) | (refine iteNF (by omega) ?_; conv => whnf))
      refine ⟨Nat, [0, 2, 3, 4, 5, 6, 22, 23, 24, 25, 52], fun j => [(10, .int .i64 ((j : Int) - 1)), (9, .int .i64 (tot (ps.drop j) : Nat))], fun j h' => j ≤ ps.length ∧ Hp h0 h' [], fun j => j, ?_⟩
      conv => whnf
      refine ⟨⟨ps.length, ⟨(by first | rfl | (show Value.int .i64 _ = _; congr 1; omega) | (show Value.int .i64 _ = _; rw [wrap64_id (by omega) (by omega)]; first | rfl | (congr 1; omega))), by show Value.int .i64 _ = _; rw [List.drop_of_length_le (Nat.le_refl _)]; rfl, trivial⟩, by omega, H⟩, ?_⟩
      clear H
      rintro j h4 ⟨jA, H⟩
      conv => whnf
      by_cases c4 : j = 0
      · subst c4
        have e0 : ps.drop 0 = ps := rfl
        rw [e0]
        conv => whnf
        repeat (first | (refine cnd_intro (by first | (simp; done) | (simp; omega) | omega | (simp only [Bool.and_eq_true, decide_eq_true_eq]; omega)) ?_; conv => whnf) | (refine Hp.ld H 0 rfl rfl ?_; conv => whnf) | (refine Hp.ld H 1 rfl rfl ?_; conv => whnf) | (refine Hp.ld H 2 rfl rfl ?_; conv => whnf) | (refine Hp.ld H 3 rfl rfl ?_; conv => whnf) | (refine Hp.ld H 4 rfl rfl ?_; conv => whnf) | (refine Hp.ld H 5 rfl rfl ?_; conv => whnf) | (refine Hp.st H 0 rfl rfl rfl rfl rfl ?_; intro h H; conv => whnf) | (refine Hp.st H 1 rfl rfl rfl rfl rfl ?_; intro h H; conv => whnf) | (refine Hp.st H 2 rfl rfl rfl rfl rfl ?_; intro h H; conv => whnf) | (refine Hp.st H 3 rfl rfl rfl rfl rfl ?_; intro h H; conv => whnf) | (refine Hp.st H 4 rfl rfl rfl rfl rfl ?_; intro h H; conv => whnf) | (refine Hp.st H 5 rfl rfl rfl rfl rfl ?_; intro h H; conv => whnf) | (intro b h N; replace H := Hp.new H N; clear N; conv => whnf) | (refine Drawn.mk (by kernel_rfl) ?_; conv => whnf) | (refine FillK.row rfl ?_; conv => whnf) | (refine FillK.lit rfl ?_; conv => whnf) | (refine WrapK.i64 (by omega) (by omega) ?_; conv => whnf) | (refine WrapK.u64 (by omega) (by omega) ?_; conv => whnf) | (refine WrapK.u32 (by omega) (by omega) ?_; conv => whnf) | (refine WrapK.u8 (by omega) (by omega) ?_; conv => whnf) | (refine iteT (by omega) ?_; conv => whnf) | (refine iteF (by omega) ?_; conv => whnf) | (refine iteET (by omega) ?_; conv => whnf) | (refine iteEF (by omega) ?_; conv => whnf) | (refine iteNT (by omega) ?_; conv => whnf) | (refine iteNF (by omega) ?_; conv => whnf))
        refine CallK.mono (bits_call _ m (tot ps) 64 (by
          have : 2 ^ tot ps ≤ 2 ^ 64 := Nat.pow_le_pow_right (by omega) hall64
          have : (2 : Nat) ^ 64 = 18446744073709551616 := by decide
          omega)) ?_
        rintro _ _ ⟨rfl, rfl⟩
        have e1 : bitsF m (tot ps) 64 = 0 := by
          unfold bitsF
          split
          · rfl
          · rw [show ((tot ps : Nat) : Int).toNat = tot ps by rfl, Nat.div_eq_of_lt hm, Nat.zero_mod]
        rw [e1]
        conv => whnf
        repeat (first | (refine cnd_intro (by first | (simp; done) | (simp; omega) | omega | (simp only [Bool.and_eq_true, decide_eq_true_eq]; omega)) ?_; conv => whnf) | (refine Hp.ld H 0 rfl rfl ?_; conv => whnf) | (refine Hp.ld H 1 rfl rfl ?_; conv => whnf) | (refine Hp.ld H 2 rfl rfl ?_; conv => whnf) | (refine Hp.ld H 3 rfl rfl ?_; conv => whnf) | (refine Hp.ld H 4 rfl rfl ?_; conv => whnf) | (refine Hp.ld H 5 rfl rfl ?_; conv => whnf) | (refine Hp.st H 0 rfl rfl rfl rfl rfl ?_; intro h H; conv => whnf) | (refine Hp.st H 1 rfl rfl rfl rfl rfl ?_; intro h H; conv => whnf) | (refine Hp.st H 2 rfl rfl rfl rfl rfl ?_; intro h H; conv => whnf) | (refine Hp.st H 3 rfl rfl rfl rfl rfl ?_; intro h H; conv => whnf) | (refine Hp.st H 4 rfl rfl rfl rfl rfl ?_; intro h H; conv => whnf) | (refine Hp.st H 5 rfl rfl rfl rfl rfl ?_; intro h H; conv => whnf) | (intro b h N; replace H := Hp.new H N; clear N; conv => whnf) | (refine Drawn.mk (by kernel_rfl) ?_; conv => whnf) | (refine FillK.row rfl ?_; conv => whnf) | (refine FillK.lit rfl ?_; conv => whnf) | (refine WrapK.i64 (by omega) (by omega) ?_; conv => whnf) | (refine WrapK.u64 (by omega) (by omega) ?_; conv => whnf) | (refine WrapK.u32 (by omega) (by omega) ?_; conv => whnf) | (refine WrapK.u8 (by omega) (by omega) ?_; conv => whnf) | (refine iteT (by omega) ?_; conv => whnf) | (refine iteF (by omega) ?_; conv => whnf) | (refine iteET (by omega) ?_; conv => whnf) | (refine iteEF (by omega) ?_; conv => whnf) | (refine iteNT (by omega) ?_; conv => whnf) | (refine iteNF (by omega) ?_; conv => whnf))
        exact ⟨rfl, H.keep⟩
      · obtain ⟨i, rfl⟩ : ∃ i, j = i + 1 := ⟨j - 1, by omega⟩
        obtain ⟨⟨x, s⟩, hpi⟩ := list_at (L := ps) (i := i) (by omega)
        obtain ⟨hel, hx1, hs1⟩ := hP i _ hpi
        have hel := hel.keep H.keep
        obtain ⟨sb, so, rfl⟩ := hel.some
        have ht := tot_drop ps hpi
        have htl := tot_le ps i
        have hb := pack_bits hpk hx hpi
        have hm64 : m < 18446744073709551616 := by
          have : 2 ^ tot ps ≤ 2 ^ 64 := Nat.pow_le_pow_right (by omega) hall64
          have : (2 : Nat) ^ 64 = 18446744073709551616 := by decide
          omega
        have hxs : x < 2 ^ s := by rw [← hb]; exact Nat.mod_lt _ (Nat.pow_pos (by omega))
        have eb : bitsF m (tot (ps.drop (i + 1)) : Nat) ((tot (ps.drop (i + 1)) : Nat) + (s : Nat)) = x := by
          unfold bitsF
          split
          · rename_i hc
            have : s = 0 := by omega
            subst this
            simp at hxs
            omega
          · rw [show ((tot (ps.drop (i + 1)) : Nat) : Int).toNat = tot (ps.drop (i + 1)) by rfl, show (((tot (ps.drop (i + 1)) : Nat) : Int) + (s : Int) - ((tot (ps.drop (i + 1)) : Nat) : Int)).toNat = s by omega]
            exact hb
        generalize tot (ps.drop (i + 1)) = T at *
        have e0 : ((i + 1 : Nat) : Int) - 1 = (i : Int) := by omega
        rw [e0]
        have f0 := hel.out
        obtain ⟨b', o', c', T', z', hA, hbk, hlen, hcs⟩ := f0
        injection hA with hA; injection hA with hA1 hA2 _
        subst hA1 hA2
        conv => whnf
        repeat (first | (refine cnd_intro (by first | (simp; done) | (simp; omega) | omega | (simp only [Bool.and_eq_true, decide_eq_true_eq]; omega)) ?_; conv => whnf) | (refine Hp.ld H 0 rfl rfl ?_; conv => whnf) | (refine Hp.ld H 1 rfl rfl ?_; conv => whnf) | (refine Hp.ld H 2 rfl rfl ?_; conv => whnf) | (refine Hp.ld H 3 rfl rfl ?_; conv => whnf) | (refine Hp.ld H 4 rfl rfl ?_; conv => whnf) | (refine Hp.ld H 5 rfl rfl ?_; conv => whnf) | (refine Hp.st H 0 rfl rfl rfl rfl rfl ?_; intro h H; conv => whnf) | (refine Hp.st H 1 rfl rfl rfl rfl rfl ?_; intro h H; conv => whnf) | (refine Hp.st H 2 rfl rfl rfl rfl rfl ?_; intro h H; conv => whnf) | (refine Hp.st H 3 rfl rfl rfl rfl rfl ?_; intro h H; conv => whnf) | (refine Hp.st H 4 rfl rfl rfl rfl rfl ?_; intro h H; conv => whnf) | (refine Hp.st H 5 rfl rfl rfl rfl rfl ?_; intro h H; conv => whnf) | (intro b h N; replace H := Hp.new H N; clear N; conv => whnf) | (refine Drawn.mk (by kernel_rfl) ?_; conv => whnf) | (refine FillK.row rfl ?_; conv => whnf) | (refine FillK.lit rfl ?_; conv => whnf) | (refine WrapK.i64 (by omega) (by omega) ?_; conv => whnf) | (refine WrapK.u64 (by omega) (by omega) ?_; conv => whnf) | (refine WrapK.u32 (by omega) (by omega) ?_; conv => whnf) | (refine WrapK.u8 (by omega) (by omega) ?_; conv => whnf) | (refine iteT (by omega) ?_; conv => whnf) | (refine iteF (by omega) ?_; conv => whnf) | (refine iteET (by omega) ?_; conv => whnf) | (refine iteEF (by omega) ?_; conv => whnf) | (refine iteNT (by omega) ?_; conv => whnf) | (refine iteNF (by omega) ?_; conv => whnf))
        refine LdK.elem (hel.sub (j := 1) (m := 1) (ds := [.int .u64 (s : Int)]) (by decide) rfl rfl) (y := ⟨.int .u64, 1, 8, false, some (.int .u64 0)⟩) rfl (by first | omega | (simp; done) | (simp; omega)) (.inr ⟨_, rfl⟩) ?_
        conv => whnf
        repeat (first | (refine cnd_intro (by first | (simp; done) | (simp; omega) | omega | (simp only [Bool.and_eq_true, decide_eq_true_eq]; omega)) ?_; conv => whnf) | (refine Hp.ld H 0 rfl rfl ?_; conv => whnf) | (refine Hp.ld H 1 rfl rfl ?_; conv => whnf) | (refine Hp.ld H 2 rfl rfl ?_; conv => whnf) | (refine Hp.ld H 3 rfl rfl ?_; conv => whnf) | (refine Hp.ld H 4 rfl rfl ?_; conv => whnf) | (refine Hp.ld H 5 rfl rfl ?_; conv => whnf) | (refine Hp.st H 0 rfl rfl rfl rfl rfl ?_; intro h H; conv => whnf) | (refine Hp.st H 1 rfl rfl rfl rfl rfl ?_; intro h H; conv => whnf) | (refine Hp.st H 2 rfl rfl rfl rfl rfl ?_; intro h H; conv => whnf) | (refine Hp.st H 3 rfl rfl rfl rfl rfl ?_; intro h H; conv => whnf) | (refine Hp.st H 4 rfl rfl rfl rfl rfl ?_; intro h H; conv => whnf) | (refine Hp.st H 5 rfl rfl rfl rfl rfl ?_; intro h H; conv => whnf) | (intro b h N; replace H := Hp.new H N; clear N; conv => whnf) | (refine FillK.row rfl ?_; conv => whnf) | (refine FillK.lit rfl ?_; conv => whnf) | (refine WrapK.i64 (by omega) (by omega) ?_; conv => whnf) | (refine WrapK.u64 (by omega) (by omega) ?_; conv => whnf) | (refine WrapK.u32 (by omega) (by omega) ?_; conv => whnf) | (refine WrapK.u8 (by omega) (by omega) ?_; conv => whnf) | (refine iteT (by omega) ?_; conv => whnf) | (refine iteF (by omega) ?_; conv => whnf) | (refine iteET (by omega) ?_; conv => whnf) | (refine iteEF (by omega) ?_; conv => whnf) | (refine iteNT (by omega) ?_; conv => whnf) | (refine iteNF (by omega) ?_; conv => whnf))
        refine Drawn.ord [0, 1, 2, 3, 4, 6, 7, 8, 9, 10, 5, 11] (by kernel_rfl) ?_
        conv => whnf
        repeat (first | (refine cnd_intro (by first | (simp; done) | (simp; omega) | omega | (simp only [Bool.and_eq_true, decide_eq_true_eq]; omega)) ?_; conv => whnf) | (refine Hp.ld H 0 rfl rfl ?_; conv => whnf) | (refine Hp.ld H 1 rfl rfl ?_; conv => whnf) | (refine Hp.ld H 2 rfl rfl ?_; conv => whnf) | (refine Hp.ld H 3 rfl rfl ?_; conv => whnf) | (refine Hp.ld H 4 rfl rfl ?_; conv => whnf) | (refine Hp.ld H 5 rfl rfl ?_; conv => whnf) | (refine Hp.st H 0 rfl rfl rfl rfl rfl ?_; intro h H; conv => whnf) | (refine Hp.st H 1 rfl rfl rfl rfl rfl ?_; intro h H; conv => whnf) | (refine Hp.st H 2 rfl rfl rfl rfl rfl ?_; intro h H; conv => whnf) | (refine Hp.st H 3 rfl rfl rfl rfl rfl ?_; intro h H; conv => whnf) | (refine Hp.st H 4 rfl rfl rfl rfl rfl ?_; intro h H; conv => whnf) | (refine Hp.st H 5 rfl rfl rfl rfl rfl ?_; intro h H; conv => whnf) | (intro b h N; replace H := Hp.new H N; clear N; conv => whnf) | (refine Drawn.mk (by kernel_rfl) ?_; conv => whnf) | (refine FillK.row rfl ?_; conv => whnf) | (refine FillK.lit rfl ?_; conv => whnf) | (refine WrapK.i64 (by omega) (by omega) ?_; conv => whnf) | (refine WrapK.u64 (by omega) (by omega) ?_; conv => whnf) | (refine WrapK.u32 (by omega) (by omega) ?_; conv => whnf) | (refine WrapK.u8 (by omega) (by omega) ?_; conv => whnf) | (refine iteT (by omega) ?_; conv => whnf) | (refine iteF (by omega) ?_; conv => whnf) | (refine iteET (by omega) ?_; conv => whnf) | (refine iteEF (by omega) ?_; conv => whnf) | (refine iteNT (by omega) ?_; conv => whnf) | (refine iteNF (by omega) ?_; conv => whnf))
        refine LdK.elem (hel.sub (j := 0) (m := 1) (ds := [.int .u64 (x : Int)]) (by decide) rfl rfl) (y := ⟨.int .u64, 1, 8, false, some (.int .u64 0)⟩) rfl (by first | omega | (simp; done) | (simp; omega)) (.inr ⟨_, rfl⟩) ?_
        conv => whnf
        repeat (first | (refine cnd_intro (by first | (simp; done) | (simp; omega) | omega | (simp only [Bool.and_eq_true, decide_eq_true_eq]; omega)) ?_; conv => whnf) | (refine Hp.ld H 0 rfl rfl ?_; conv => whnf) | (refine Hp.ld H 1 rfl rfl ?_; conv => whnf) | (refine Hp.ld H 2 rfl rfl ?_; conv => whnf) | (refine Hp.ld H 3 rfl rfl ?_; conv => whnf) | (refine Hp.ld H 4 rfl rfl ?_; conv => whnf) | (refine Hp.ld H 5 rfl rfl ?_; conv => whnf) | (refine Hp.st H 0 rfl rfl rfl rfl rfl ?_; intro h H; conv => whnf) | (refine Hp.st H 1 rfl rfl rfl rfl rfl ?_; intro h H; conv => whnf) | (refine Hp.st H 2 rfl rfl rfl rfl rfl ?_; intro h H; conv => whnf) | (refine Hp.st H 3 rfl rfl rfl rfl rfl ?_; intro h H; conv => whnf) | (refine Hp.st H 4 rfl rfl rfl rfl rfl ?_; intro h H; conv => whnf) | (refine Hp.st H 5 rfl rfl rfl rfl rfl ?_; intro h H; conv => whnf) | (intro b h N; replace H := Hp.new H N; clear N; conv => whnf) | (refine Drawn.mk (by kernel_rfl) ?_; conv => whnf) | (refine FillK.row rfl ?_; conv => whnf) | (refine FillK.lit rfl ?_; conv => whnf) | (refine WrapK.i64 (by omega) (by omega) ?_; conv => whnf) | (refine WrapK.u64 (by omega) (by omega) ?_; conv => whnf) | (refine WrapK.u32 (by omega) (by omega) ?_; conv => whnf) | (refine WrapK.u8 (by omega) (by omega) ?_; conv => whnf) | (refine iteT (by omega) ?_; conv => whnf) | (refine iteF (by omega) ?_; conv => whnf) | (refine iteET (by omega) ?_; conv => whnf) | (refine iteEF (by omega) ?_; conv => whnf) | (refine iteNT (by omega) ?_; conv => whnf) | (refine iteNF (by omega) ?_; conv => whnf))
        refine CallK.mono (bits_call _ m (T : Nat) ((T : Nat) + (s : Nat)) hm64) ?_
        rintro _ _ ⟨rfl, rfl⟩
        rw [eb]
        conv => whnf
        refine ⟨Keep.refl _ _, ?_⟩
        conv => whnf
        refine iteNF rfl ?_
        conv => whnf
        repeat (first | (refine cnd_intro (by first | (simp; done) | (simp; omega) | omega | (simp only [Bool.and_eq_true, decide_eq_true_eq]; omega)) ?_; conv => whnf) | (refine Hp.ld H 0 rfl rfl ?_; conv => whnf) | (refine Hp.ld H 1 rfl rfl ?_; conv => whnf) | (refine Hp.ld H 2 rfl rfl ?_; conv => whnf) | (refine Hp.ld H 3 rfl rfl ?_; conv => whnf) | (refine Hp.ld H 4 rfl rfl ?_; conv => whnf) | (refine Hp.ld H 5 rfl rfl ?_; conv => whnf) | (refine Hp.st H 0 rfl rfl rfl rfl rfl ?_; intro h H; conv => whnf) | (refine Hp.st H 1 rfl rfl rfl rfl rfl ?_; intro h H; conv => whnf) | (refine Hp.st H 2 rfl rfl rfl rfl rfl ?_; intro h H; conv => whnf) | (refine Hp.st H 3 rfl rfl rfl rfl rfl ?_; intro h H; conv => whnf) | (refine Hp.st H 4 rfl rfl rfl rfl rfl ?_; intro h H; conv => whnf) | (refine Hp.st H 5 rfl rfl rfl rfl rfl ?_; intro h H; conv => whnf) | (intro b h N; replace H := Hp.new H N; clear N; conv => whnf) | (refine Drawn.mk (by kernel_rfl) ?_; conv => whnf) | (refine FillK.row rfl ?_; conv => whnf) | (refine FillK.lit rfl ?_; conv => whnf) | (refine WrapK.i64 (by omega) (by omega) ?_; conv => whnf) | (refine WrapK.u64 (by omega) (by omega) ?_; conv => whnf) | (refine WrapK.u32 (by omega) (by omega) ?_; conv => whnf) | (refine WrapK.u8 (by omega) (by omega) ?_; conv => whnf) | (refine iteT (by omega) ?_; conv => whnf) | (refine iteF (by omega) ?_; conv => whnf) | (refine iteET (by omega) ?_; conv => whnf) | (refine iteEF (by omega) ?_; conv => whnf) | (refine iteNT (by omega) ?_; conv => whnf) | (refine iteNF (by omega) ?_; conv => whnf))
        refine ⟨i, ⟨(by first | rfl | (show Value.int .i64 _ = _; congr 1; omega) | (show Value.int .i64 _ = _; rw [wrap64_id (by omega) (by omega)]; first | rfl | (congr 1; omega))), ?_, trivial⟩, (by repeat (first | exact trivial | refine ⟨rfl, ?_⟩)), ⟨by omega, H⟩, by show i < i + 1; omega⟩
        show Value.int .i64 _ = _
        rw [ht]
        congr 1
        omega

end Go.Proofs.Ytlgekbknebbnlaa
