import Derived.Test.YtddfjnjhgeofmaaFdbP
namespace Go.Proofs.Ytddfjnjhgeofmaa
open Go.Vc
set_option maxRecDepth 10000
set_option maxHeartbeats 4000000

/-! ### fdb: what every round of FdbPlays keeps -/

structure Ply (E : List FEnt) (L : FM) (i : Nat) (rm now lost : Int) : Prop where
  good : GoodE E
  rel : Rel E L
  sorted : E.Pairwise fun x y => x.seen ≤ y.seen
  past : ∀ x ∈ E, x.seen ≤ now
  len : E.length ≤ i
  room : (E.length : Int) ≤ rm
  now0 : 0 ≤ now
  now1 : now ≤ 1099511627776 * (i : Int)
  lost0 : 0 ≤ lost
  lost1 : lost ≤ (i : Int)

theorem Ply.filter {E : List FEnt} {L : FM} {i : Nat} {rm now lost : Int} (y : Ply E L i rm now lost) {p : FEnt → Bool} {q : FKey × FVal → Bool} (h : ∀ x, p x = q x.toP) : Ply (E.filter p) (L.filter q) i rm now lost := by
  have hle := List.length_filter_le p E
  have h1 := y.len
  have h2 := y.room
  exact ⟨y.good.filter p, y.rel.filter h, y.sorted.sublist List.filter_sublist, fun x hx => y.past x (List.mem_filter.1 hx).1, by omega, by omega, y.now0, y.now1, y.lost0, y.lost1⟩

theorem Ply.later {E : List FEnt} {L : FM} {i : Nat} {rm now lost : Int} (y : Ply E L i rm now lost) {d : Int} (h0 : 0 ≤ d) (h1 : d ≤ 1099511627776) : Ply E L (i + 1) rm (now + d) lost := by
  have a := y.len
  have b := y.now0
  have c := y.now1
  have e := y.lost1
  exact ⟨y.good, y.rel, y.sorted, fun x hx => by have := y.past x hx; omega, by omega, y.room, by omega, by omega, y.lost0, by omega⟩

theorem keyed {v : Int} {m : Mac6} (x : FEnt) : x.key v m = true ↔ x.vid = v ∧ x.mac = m := by
  unfold FEnt.key
  exact decide_eq_true_iff

theorem GoodE.put {E : List FEnt} (g : GoodE E) {v now : Int} {m : Mac6} (port : Int) (hl : E.length + 1 ≤ 1000) (h0 : 0 ≤ now) (h1 : now ≤ 1152921504606846976) (hk : ∀ x ∈ E, x.key v m = false) : GoodE (E ++ [⟨v, m, port, now⟩]) := by
  refine ⟨by simp; omega, fun x hx => ?_, ?_⟩
  · rcases List.mem_append.1 hx with h | h
    · exact g.seen x h
    · rw [List.mem_singleton.1 h]; exact ⟨h0, h1⟩
  · rw [List.pairwise_append]
    refine ⟨g.apart, List.pairwise_singleton _ _, fun x hx y hy e => ?_⟩
    rw [List.mem_singleton.1 hy] at e
    have := hk x hx
    rw [(keyed x).2 e] at this
    cases this

theorem Ply.put {E : List FEnt} {L : FM} {i : Nat} {rm now lost : Int} (y : Ply E L i rm now lost) (hp : L.Pairwise fun x y => x.1 ≠ y.1) (v port : Int) (m : Mac6) (hi : i ≤ 1000) (h1 : (E.filter fun z => !(z.key v m)).length + 1 ≤ i) (h2 : (((E.filter fun z => !(z.key v m)).length + 1 : Nat) : Int) ≤ rm) : Ply ((E.filter fun z => !(z.key v m)) ++ [⟨v, m, port, now⟩]) (mput ⟨v, m⟩ ⟨port, now⟩ L) i rm now lost := by
  have a := y.now0
  have b := y.now1
  refine ⟨(y.good.filter _).put port (by omega) a (by omega) (fun x hx => ?_), y.rel.put hp v m port now, ?_, fun x hx => ?_, by simp; omega, by simp only [List.length_append, List.length_singleton]; exact h2, a, b, y.lost0, y.lost1⟩
  · have := (List.mem_filter.1 hx).2
    cases h : x.key v m
    · rfl
    · rw [h] at this; cases this
  · rw [List.pairwise_append]
    refine ⟨y.sorted.sublist List.filter_sublist, List.pairwise_singleton _ _, fun x hx z hz => ?_⟩
    rw [List.mem_singleton.1 hz]
    exact y.past x (List.mem_filter.1 hx).1
  · rcases List.mem_append.1 hx with h | h
    · exact y.past x (List.mem_filter.1 h).1
    · rw [List.mem_singleton.1 h]; exact Int.le_refl _

theorem filter_lt {α : Type} {p : α → Bool} : ∀ {E : List α}, E.any p = true → (E.filter fun z => !(p z)).length + 1 ≤ E.length
  | [], h => by cases h
  | x :: r, h => by
    rw [List.any_cons] at h
    rw [List.filter_cons]
    have hle := List.length_filter_le (fun z => !(p z)) r
    cases hx : p x with
    | true => simp only [Bool.not_true, Bool.false_eq_true, if_false, List.length_cons]; omega
    | false =>
      rw [hx, Bool.false_or] at h
      have := filter_lt h
      simp only [Bool.not_false, if_true, List.length_cons]
      omega

theorem Ply.again {E : List FEnt} {L : FM} {i : Nat} {rm now lost : Int} (y : Ply E L i rm now lost) (hp : L.Pairwise fun x y => x.1 ≠ y.1) (v port : Int) (m : Mac6) (h : E.any (FEnt.key v m) = true) (hi : i ≤ 1000) : Ply ((E.filter fun z => !(z.key v m)) ++ [⟨v, m, port, now⟩]) (mput ⟨v, m⟩ ⟨port, now⟩ L) i rm now lost := by
  have h1 := filter_lt h
  have h2 := y.len
  have h3 := y.room
  exact y.put hp v port m hi (by omega) (by omega)

theorem Ply.more {E : List FEnt} {L : FM} {i : Nat} {rm now lost : Int} (y : Ply E L i rm now lost) (hp : L.Pairwise fun x y => x.1 ≠ y.1) (v port : Int) (m : Mac6) (h : E.any (FEnt.key v m) = false) (hi : i ≤ 1000) (h1 : E.length < i) (h2 : (E.length : Int) < rm) : Ply (E ++ [⟨v, m, port, now⟩]) (mput ⟨v, m⟩ ⟨port, now⟩ L) i rm now lost := by
  have e : (E.filter fun z => !(z.key v m)) = E := by
    rw [List.filter_eq_self]
    intro z hz
    have := (List.any_eq_false.1 h) z hz
    cases hk : z.key v m
    · rfl
    · exact absurd hk this
  have := y.put hp v port m hi (by rw [e]; omega) (by rw [e]; omega)
  rw [e] at this
  exact this

theorem Ply.lose {E : List FEnt} {L : FM} {i : Nat} {rm now lost : Int} (y : Ply E L i rm now lost) (h : lost < i) : Ply E L i rm now (lost + 1) := by
  have := y.lost0
  exact ⟨y.good, y.rel, y.sorted, y.past, y.len, y.room, y.now0, y.now1, by omega, by omega⟩

theorem pair_at {E : List FEnt} (hs : E.Pairwise fun x y => x.seen ≤ y.seen) {i j : Nat} {x y : FEnt} (hx : E[i]? = some x) (hy : E[j]? = some y) (h : i < j) : x.seen ≤ y.seen := by
  rw [List.pairwise_iff_getElem] at hs
  obtain ⟨hi, rfl⟩ := List.getElem?_eq_some_iff.1 hx
  obtain ⟨hj, rfl⟩ := List.getElem?_eq_some_iff.1 hy
  exact hs i j hi hj h

def isQ (p : Int) (x : FKey × FVal) : Bool := decide (x.2.port = p)

end Go.Proofs.Ytddfjnjhgeofmaa
