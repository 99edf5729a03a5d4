import Derived.Test.YtcjilkemfmhkgaaRelay5
namespace Go.Proofs.Ytcjilkemfmhkgaa
open Go.Vc
set_option maxRecDepth 10000
set_option maxHeartbeats 4000000

/-! ### relay: what is learnt, in plain words -/

theorem rl1 {x : Mac6} (hx : x.group = false) (p : Int) : learnF 10 1000 1 x p 0 [] 0 = (0, [⟨1, x, p, 0⟩], 0) := by
  simp [learnF, hx]

theorem rl2 {x y : Mac6} (hne : x ≠ y) (hy : y.group = false) (p q n : Int) (h2 : n < 1000) : learnF 10 1000 1 y q n [⟨1, x, p, 0⟩] 0 = (0, [⟨1, x, p, 0⟩, ⟨1, y, q, n⟩], 0) := by
  have : ¬ (1000 ≤ n) := by omega
  simp [learnF, FEnt.old, FEnt.key, hy, hne, this, h2]

theorem rl3 {x y : Mac6} (hne : x ≠ y) (hy : y.group = false) (p q r n k : Int) (h1 : n ≤ k) (h2 : k < 1000) (h0 : 0 ≤ n) : learnF 10 1000 1 y r k [⟨1, x, p, 0⟩, ⟨1, y, q, n⟩] 0 = (0, [⟨1, x, p, 0⟩, ⟨1, y, r, k⟩], 0) := by
  have a : ¬ (1000 ≤ k) := by omega
  have b : ¬ (1000 ≤ k - n) := by omega
  have a' : k < 1000 := by omega
  have b' : k - n < 1000 := by omega
  simp [learnF, FEnt.old, FEnt.key, hy, hne, a, b, a', b']

theorem rl4 {x y : Mac6} (hne : x ≠ y) (hx : x.group = false) (p q r n k : Int) (h1 : n ≤ k) (h2 : k < 1000) (h0 : 0 ≤ n) : learnF 10 1000 1 x r k [⟨1, x, p, 0⟩, ⟨1, y, q, n⟩] 0 = (0, [⟨1, y, q, n⟩, ⟨1, x, r, k⟩], 0) := by
  have a : ¬ (1000 ≤ k) := by omega
  have b : ¬ (1000 ≤ k - n) := by omega
  have a' : k < 1000 := by omega
  have b' : k - n < 1000 := by omega
  simp [learnF, FEnt.old, FEnt.key, hx, hne.symm, a, b, a', b']

theorem rl5 {x y : Mac6} (hx : x.group = false) (p q r : Int) : learnF 10 1000 2 x r 3 [⟨1, y, q, 1⟩, ⟨1, x, p, 2⟩] 0 = (0, [⟨1, y, q, 1⟩, ⟨1, x, p, 2⟩, ⟨2, x, r, 3⟩], 0) := by
  simp [learnF, FEnt.old, FEnt.key, hx]

theorem rf1 {x y : Mac6} (hne : x ≠ y) (p n : Int) : findE' [⟨1, x, p, 0⟩] 1 y 1000 n = (0, 21) := by
  simp [findE', FEnt.key, hne]

theorem rf2 {x y : Mac6} (p q m n : Int) (h : n < 1000) : findE' [⟨1, x, p, 0⟩, ⟨1, y, q, m⟩] 1 x 1000 n = (p, 0) := by
  have : ¬ (1000 ≤ n) := by omega
  simp [findE', FEnt.key, FEnt.old, List.find?_cons, this, h]

theorem rf3 {x y : Mac6} (p q : Int) : findE' [⟨1, y, q, 1⟩, ⟨1, x, p, 2⟩] 1 y 1000 2 = (q, 0) := by
  simp [findE', FEnt.key, FEnt.old, List.find?_cons]

theorem rf5 {x y : Mac6} (hne : x ≠ y) (p q r : Int) : findE' [⟨1, y, q, 1⟩, ⟨1, x, p, 2⟩, ⟨2, x, r, 3⟩] 2 y 1000 3 = (0, 21) := by
  simp [findE', FEnt.key, List.find?_cons, hne]

theorem rg1 (x : Mac6) (p : Int) : GoodE [⟨1, x, p, 0⟩] := ⟨by simp, by simp, List.pairwise_singleton _ _⟩

theorem rg2 {v w : Int} {x y : Mac6} (hne : x ≠ y) (p q m n : Int) (h1 : 0 ≤ m) (h2 : m ≤ 1000) (h3 : 0 ≤ n) (h4 : n ≤ 1000) : GoodE [⟨v, x, p, m⟩, ⟨w, y, q, n⟩] := by
  refine ⟨by simp, ?_, ?_⟩
  · intro e he
    simp only [List.mem_cons, List.mem_nil_iff, or_false] at he
    rcases he with rfl | rfl
    · exact ⟨by show 0 ≤ m; omega, by show m ≤ _; omega⟩
    · exact ⟨by show 0 ≤ n; omega, by show n ≤ _; omega⟩
  · simp [hne]

theorem rg3 {x y : Mac6} (hne : x ≠ y) (p q r : Int) : GoodE [⟨1, y, q, 1⟩, ⟨1, x, p, 2⟩, ⟨2, x, r, 3⟩] := by
  refine ⟨by simp, ?_, ?_⟩
  · intro e he
    simp only [List.mem_cons, List.mem_nil_iff, or_false] at he
    rcases he with rfl | rfl | rfl <;> simp
  · simp [hne.symm]

end Go.Proofs.Ytcjilkemfmhkgaa
