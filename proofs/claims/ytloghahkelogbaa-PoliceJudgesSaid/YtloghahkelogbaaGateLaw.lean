import Derived.Test.YtloghahkelogbaaEnv
import Derived.Test.YtloghahkelogbaaLib
namespace Go.Proofs.Ytloghahkelogbaa
set_option maxRecDepth 10000
set_option maxHeartbeats 4000000

/-! ### gate lists, as plain lists -/

structure Ent where
  op : Int
  ns : Int

def atF (cycle into : Int) : List Ent → Nat → Int → Nat × Int
  | [], i, _ => (i - 1, cycle - into)
  | x :: r, i, e => if into < e + x.ns ∧ r ≠ [] ∧ e + x.ns < cycle then (i, e + x.ns - into) else if e + x.ns ≥ cycle then (i, cycle - into) else atF cycle into r (i + 1) (e + x.ns)

/-- What lies ahead of a piece. -/
def pre (es : List Ent) (i : Nat) : Int := ((es.take i).map Ent.ns).sum

theorem pre_zero (es : List Ent) : pre es 0 = 0 := by simp [pre]
theorem pre_succ {es : List Ent} {i : Nat} {x : Ent} (h : es[i]? = some x) : pre es (i + 1) = pre es i + x.ns := by
  unfold pre
  rw [List.take_add_one, h]
  simp

def Pos (es : List Ent) : Prop := ∀ x ∈ es, 1 ≤ x.ns

theorem pre_mono {es : List Ent} (hp : Pos es) {i j : Nat} (h : i ≤ j) : pre es i ≤ pre es j := by
  induction j with
  | zero => obtain rfl : i = 0 := by omega
            exact Int.le_refl _
  | succ j ih =>
    rcases Nat.lt_or_ge i (j + 1) with h1 | h1
    · have := ih (by omega)
      cases hj : es[j]? with
      | none =>
        have hl : es.length ≤ j := List.getElem?_eq_none_iff.1 hj
        have : pre es (j + 1) = pre es j := by unfold pre; rw [List.take_of_length_le hl, List.take_of_length_le (by omega)]
        omega
      | some x =>
        have := pre_succ hj
        have := hp x (List.mem_of_getElem? hj)
        omega
    · obtain rfl : i = j + 1 := by omega
      exact Int.le_refl _

/-- The piece within whose bounds a time lies. -/
structure IsIx (es : List Ent) (into : Int) (i : Nat) : Prop where
  lt : i < es.length
  le : pre es i ≤ into
  gt : ∀ j, i < j → j < es.length → into < pre es j

theorem IsIx.unique {es : List Ent} {into : Int} {i j : Nat} (a : IsIx es into i) (b : IsIx es into j) : i = j := by
  rcases Nat.lt_trichotomy i j with h | h | h
  · have := a.gt j h b.lt
    have := b.le
    omega
  · exact h
  · have := b.gt i h a.lt
    have := a.le
    omega

theorem atF_ix {es : List Ent} (hp : Pos es) {cycle into : Int} (hc : into < cycle) : ∀ (n i : Nat), n = es.length - i → 0 < i ∨ es ≠ [] → i ≤ es.length → pre es i ≤ into ∨ i = 0 → 0 ≤ into → (i < es.length → pre es i ≤ into) →
    (0 < i → i = es.length → pre es (i - 1) ≤ into ∧ True) → IsIx es into (atF cycle into (es.drop i) i (pre es i)).1 ∧ 0 < (atF cycle into (es.drop i) i (pre es i)).2 ∧ (atF cycle into (es.drop i) i (pre es i)).2 ≤ cycle - into := by
  intro n
  induction n with
  | zero =>
    intro i hn h0 hi _ _ _ hl
    have : i = es.length := by omega
    subst this
    rw [List.drop_length]
    simp only [atF]
    have hpos : 0 < es.length := by
      rcases h0 with h | h
      · exact h
      · exact List.length_pos_iff.2 h
    exact ⟨⟨by omega, (hl hpos rfl).1, fun j h1 h2 => by omega⟩, by omega, by omega⟩
  | succ n ih =>
    intro i hn h0 hi h1 h2 h3 hl
    have hlt : i < es.length := by omega
    have hx := List.getElem?_eq_getElem hlt
    rw [List.drop_eq_getElem_cons hlt]
    generalize es[i] = x at *
    have hs := pre_succ hx
    have hple := h3 hlt
    have hxp := hp x (List.mem_of_getElem? hx)
    have hd : es.drop (i + 1) ≠ [] ↔ i + 1 < es.length := by
      rw [ne_eq, List.drop_eq_nil_iff]
      omega
    simp only [atF]
    rw [← hs]
    have gtj : into < pre es (i + 1) → ∀ j, i < j → j < es.length → into < pre es j := fun h j h4 h5 => by
      have := pre_mono hp (show i + 1 ≤ j by omega)
      omega
    split
    · rename_i c
      exact ⟨⟨hlt, hple, gtj c.1⟩, by show 0 < _ - into; omega, by show _ - into ≤ _; omega⟩
    split
    · rename_i c c2
      exact ⟨⟨hlt, hple, gtj (by omega)⟩, by show 0 < _ - into; omega, Int.le_refl _⟩
    · rename_i c c2
      by_cases hlast : i + 1 < es.length
      · have h4 : pre es (i + 1) ≤ into := by
          rcases Int.lt_or_le into (pre es (i + 1)) with h | h
          · exact absurd ⟨h, hd.2 hlast, by omega⟩ c
          · exact h
        exact ih (i + 1) (by omega) (.inl (by omega)) (by omega) (.inl h4) h2 (fun _ => h4) (fun _ h => by omega)
      · have e : i + 1 = es.length := by omega
        rw [e, List.drop_length]
        simp only [atF]
        rw [← e, Nat.add_sub_cancel]
        exact ⟨⟨hlt, hple, fun j h4 h5 => by omega⟩, by omega, by omega⟩

def edgesF (cycle : Int) : List Ent → Int → List Int
  | [], _ => [cycle]
  | x :: r, e => if r ≠ [] ∧ e + x.ns < cycle then (e + x.ns) :: edgesF cycle r (e + x.ns) else edgesF cycle r (e + x.ns)

/-! ### a list at a time -/

structure Gl where
  base : Int
  cycle : Int
  ext : Int
  es : List Ent

structure Gl.Ok (l : Gl) : Prop where
  n1 : 1 ≤ l.es.length
  n2 : l.es.length ≤ 64
  b0 : 0 ≤ l.base
  b1 : l.base < 4611686018427387904
  c0 : 1 ≤ l.cycle
  c1 : l.cycle ≤ 1000000000
  e0 : 0 ≤ l.ext
  e1 : l.ext ≤ 1000000000
  o : ∀ x ∈ l.es, 0 ≤ x.op ∧ x.op ≤ 255
  p : ∀ x ∈ l.es, 1 ≤ x.ns ∧ x.ns ≤ 1000000000

def Gl.into (l : Gl) (t : Int) : Int := (t - l.base) % l.cycle
def Gl.at (l : Gl) (t : Int) : Nat × Int := atF l.cycle (l.into t) l.es 0 0
def Gl.opens (l : Gl) (i : Nat) : Int := match l.es[i]? with
  | some x => x.op
  | none => 0
def Gl.state (l : Gl) (t : Int) : Int := if t < l.base then 255 else l.opens (l.at t).1
def Gl.next (l : Gl) (t : Int) : Int := if t < l.base then l.base else t + (l.at t).2

theorem Gl.Ok.pos {l : Gl} (h : l.Ok) : Pos l.es := fun x hx => (h.p x hx).1

theorem Gl.Ok.into {l : Gl} (h : l.Ok) (t : Int) : 0 ≤ l.into t ∧ l.into t < l.cycle := by
  have := h.c0
  exact ⟨Int.emod_nonneg _ (by omega), Int.emod_lt_of_pos _ (by omega)⟩

theorem Gl.Ok.at {l : Gl} (h : l.Ok) (t : Int) : IsIx l.es (l.into t) (l.at t).1 ∧ 0 < (l.at t).2 ∧ (l.at t).2 ≤ l.cycle - l.into t := by
  obtain ⟨h1, h2⟩ := h.into t
  have n1 := h.n1
  have := atF_ix h.pos h2 l.es.length 0 rfl (.inr (List.ne_nil_of_length_pos (by omega))) (Nat.zero_le _) (.inr rfl) h1 (fun _ => by rw [pre_zero]; exact h1) (fun x => by omega)
  rw [List.drop_zero, pre_zero] at this
  exact this

theorem Gl.Ok.opens {l : Gl} (h : l.Ok) (t : Int) : ∃ x ∈ l.es, l.opens (l.at t).1 = x.op := by
  have hl := (h.at t).1.lt
  have hx := List.getElem?_eq_getElem hl
  refine ⟨_, List.mem_of_getElem? hx, ?_⟩
  unfold Gl.opens
  rw [hx]

/-! ### edge by edge -/

def Gl.step (l : Gl) (t : Int) : Nat → Int
  | 0 => t
  | k + 1 => l.next (l.step t k)

/-- The first of so many edges at which something holds. -/
def firstF (p : Int → Bool) (l : Gl) (t : Int) : Nat → Nat → Int
  | 0, _ => -1
  | n + 1, k => if p (l.step t k) = true then l.step t k else firstF p l t n (k + 1)

/-! ### the beginning of a cycle -/

def Gl.start (l : Gl) (t : Int) : Int := if t ≤ l.base then l.base else l.base + (t - l.base + l.cycle - 1) / l.cycle * l.cycle

theorem Gl.Ok.start {l : Gl} (h : l.Ok) (t : Int) : l.base ≤ l.start t ∧ t ≤ l.start t ∧ (l.start t - l.base) % l.cycle = 0 ∧ (l.start t = l.base ∨ l.start t - l.cycle < t) ∧ l.start t ≤ max l.base t + l.cycle := by
  have c0 := h.c0
  unfold Gl.start
  split
  · refine ⟨by omega, by omega, ?_, .inl rfl, by omega⟩
    rw [Int.sub_self, Int.zero_emod]
  · have h1 := Int.emod_add_mul_ediv (t - l.base + l.cycle - 1) l.cycle
    have h2 := Int.emod_nonneg (t - l.base + l.cycle - 1) (show l.cycle ≠ 0 by omega)
    have h3 := Int.emod_lt_of_pos (t - l.base + l.cycle - 1) (show 0 < l.cycle by omega)
    rw [Int.mul_comm] at h1
    have e : l.base + (t - l.base + l.cycle - 1) / l.cycle * l.cycle - l.base = (t - l.base + l.cycle - 1) / l.cycle * l.cycle := by omega
    refine ⟨by omega, by omega, ?_, .inr (by omega), by omega⟩
    rw [e, Int.mul_emod_left]

end Go.Proofs.Ytloghahkelogbaa
