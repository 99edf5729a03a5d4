import Derived.Test.YtddfjnjhgeofmaaFdbG
import Derived.Test.YtddfjnjhgeofmaaFdbApart
namespace Go.Proofs.Ytddfjnjhgeofmaa
open Go.Vc
set_option maxRecDepth 10000
set_option maxHeartbeats 4000000

/-! ### fdb: a table and its model -/

def FEnt.toP (x : FEnt) : FKey × FVal := (⟨x.vid, x.mac⟩, ⟨x.port, x.seen⟩)

def Rel (E : List FEnt) (L : FM) : Prop := (E.map FEnt.toP).Perm L

theorem Rel.len {E : List FEnt} {L : FM} (r : Rel E L) : L.length = E.length := by
  have := r.length_eq
  rw [List.length_map] at this
  exact this.symm

theorem Rel.filter {E : List FEnt} {L : FM} (r : Rel E L) {p : FEnt → Bool} {q : FKey × FVal → Bool} (h : ∀ x, p x = q x.toP) : Rel (E.filter p) (L.filter q) := by
  have h1 := List.Perm.filter q r
  rw [List.filter_map] at h1
  have e : q ∘ FEnt.toP = p := by funext x; exact (h x).symm
  rw [e] at h1
  exact h1

theorem lk_mem {κ α : Type} [DecidableEq κ] {L : List (κ × α)} (hp : L.Pairwise fun x y => x.1 ≠ y.1) {k : κ} {a : α} : lk L k = some a ↔ (k, a) ∈ L := by
  induction L with
  | nil => simp [lk]
  | cons x r ih =>
    rw [List.pairwise_cons] at hp
    simp only [lk]
    split
    · rename_i c
      constructor
      · intro h
        injection h with h
        rw [c, ← h]
        simp
      · intro h
        rcases List.mem_cons.1 h with h | h
        · rw [← h]
        · exact absurd c.symm (hp.1 _ h)
    · rename_i c
      rw [ih hp.2]
      constructor
      · intro h; exact List.mem_cons_of_mem _ h
      · intro h
        rcases List.mem_cons.1 h with h | h
        · rw [← h] at c; exact absurd rfl c
        · exact h

theorem mput_perm {κ α : Type} [DecidableEq κ] {k : κ} {a : α} : ∀ {L : List (κ × α)}, L.Pairwise (fun x y => x.1 ≠ y.1) → (mput k a L).Perm (mdel k L ++ [(k, a)])
  | [], _ => List.Perm.refl _
  | x :: r, hp => by
    rw [List.pairwise_cons] at hp
    simp only [mput]
    unfold mdel
    rw [List.filter_cons]
    split
    · rename_i c
      rw [decide_eq_false (by simp [c])]
      have : (r.filter fun z => decide (¬ z.1 = k)) = r := by
        rw [List.filter_eq_self]
        intro z hz
        exact decide_eq_true fun e => hp.1 z hz (c.symm.trans e.symm)
      simp only [Bool.false_eq_true, if_false, this]
      exact (List.perm_append_comm (l₁ := r) (l₂ := [(k, a)])).symm
    · rename_i c
      rw [decide_eq_true (show ¬ x.1 = k from fun e => c e.symm)]
      simp only [if_true, List.cons_append]
      exact (mput_perm hp.2).cons x

theorem key_toP {v : Int} {m : Mac6} (x : FEnt) : x.key v m = decide (x.toP.1 = ⟨v, m⟩) := by
  unfold FEnt.key FEnt.toP
  rw [Bool.eq_iff_iff, decide_eq_true_eq, decide_eq_true_eq, FKey.mk.injEq]

theorem Rel.put {E : List FEnt} {L : FM} (r : Rel E L) (hp : L.Pairwise fun x y => x.1 ≠ y.1) (v : Int) (m : Mac6) (port now : Int) : Rel ((E.filter fun y => !(y.key v m)) ++ [⟨v, m, port, now⟩]) (mput ⟨v, m⟩ ⟨port, now⟩ L) := by
  have h1 : Rel (E.filter fun y => !(y.key v m)) (mdel ⟨v, m⟩ L) := r.filter fun x => by rw [key_toP]; by_cases h : x.toP.1 = ⟨v, m⟩ <;> simp [h]
  unfold Rel at h1 ⊢
  rw [List.map_append]
  exact (h1.append_right _).trans (mput_perm hp).symm

theorem Rel.find {E : List FEnt} {L : FM} (r : Rel E L) (hp : L.Pairwise fun x y => x.1 ≠ y.1) (v : Int) (m : Mac6) : lk L ⟨v, m⟩ = (E.find? (FEnt.key v m)).map fun x => ⟨x.port, x.seen⟩ := by
  cases hf : E.find? (FEnt.key v m) with
  | some x =>
    rw [Option.map_some, lk_mem hp]
    have hx := List.mem_of_find?_eq_some hf
    have hk := List.find?_some hf
    rw [key_toP, decide_eq_true_eq] at hk
    have : x.toP ∈ L := r.mem_iff.1 (List.mem_map_of_mem hx)
    rw [← hk]
    exact this
  | none =>
    cases hl : lk L ⟨v, m⟩ with
    | none => rfl
    | some a =>
      rw [lk_mem hp] at hl
      obtain ⟨x, hx, he⟩ := List.mem_map.1 (r.mem_iff.2 hl)
      have := List.find?_eq_none.1 hf x hx
      rw [key_toP, he] at this
      exact absurd (decide_eq_true rfl) this

theorem Rel.any {E : List FEnt} {L : FM} (r : Rel E L) (hp : L.Pairwise fun x y => x.1 ≠ y.1) (v : Int) (m : Mac6) : E.any (FEnt.key v m) = (lk L ⟨v, m⟩).isSome := by
  rw [r.find hp]
  cases hf : E.find? (FEnt.key v m) with
  | some x =>
    rw [List.any_eq_true.2 ⟨x, List.mem_of_find?_eq_some hf, List.find?_some hf⟩]
    rfl
  | none =>
    have : E.any (FEnt.key v m) = false := by
      rw [List.any_eq_false]
      exact List.find?_eq_none.1 hf
    rw [this]
    rfl

theorem old_toP (age now : Int) (x : FEnt) : (!(x.old age now)) = !(oldP age now x.toP) := rfl

theorem Rel.fmok {E : List FEnt} {L : FM} (r : Rel E L) (g : GoodE E) : FMok L := by
  intro x hx
  obtain ⟨y, hy, rfl⟩ := List.mem_map.1 (r.mem_iff.2 hx)
  exact g.seen y hy

def FVal.zero : FVal := ⟨0, 0⟩
def getV (o : Option FVal) : FVal := match o with
  | some a => a
  | none => FVal.zero

theorem lkV_true (o : Option FVal) : lkV FVal.enc (.agg #[.int .i64 0, .int .i64 0]) true o = .tuple #[(getV o).enc, .bool o.isSome] := by cases o <;> rfl

structure FAct where
  kind : Int
  vid : Int
  port : Int
  mac : Mac6
  later : Int

def FAct.cells (a : FAct) : List Value := [.int .i64 a.kind, .int .i64 a.vid, .int .i64 a.port, .int .u8 a.mac.a0.toNat, .int .u8 a.mac.a1.toNat, .int .u8 a.mac.a2.toNat, .int .u8 a.mac.a3.toNat, .int .u8 a.mac.a4.toNat, .int .u8 a.mac.a5.toNat, .int .i64 a.later]

theorem fm_i64 {h : Heap} {k : Nat} {cs : List Value} (f : Fm EE h (k + 1) 2 cs) : ∃ n : Int, cs = [.int .i64 n] := by
  obtain ⟨p, rfl, wp⟩ : ∃ n, cs = [.int .i64 n] ∧ (Lit.int .i64 n).wf = true := f
  exact ⟨p, rfl⟩

theorem argfacts {h : Heap} {v : Value} (a : Arg EE h 50 v) : ∃ acts : List FAct, RowsV FAct.cells 10 h v acts ∧ acts.length ≤ 9223372036854775807 := by
  obtain ⟨A, n, cap, rfl, h1, h2, h3⟩ := a.slice (e := 55) rfl rfl rfl rfl (by decide)
  have h4 : ∀ i, i < n → ∃ x : FAct, Elem h A (i * 10) 10 x.cells := by
    intro i hi
    obtain ⟨cs, he, hf⟩ := h3 4 i hi
    obtain ⟨hl, hf⟩ : cs.length = 10 ∧ ∀ f ∈ ([⟨ "Kind", 3, 0, false, "", "", 0⟩, ⟨ "Vid", 3, 1, false, "", "", 8⟩, ⟨ "Port", 3, 2, false, "", "", 16⟩, ⟨ "Mac", 37, 3, false, "", "", 24⟩, ⟨ "Later", 2, 9, false, "", "", 32⟩] : List Field), match EE.ty f.type with
      | none => True
      | some z => Fm EE h 3 f.type ((cs.drop f.offset).take z.size) := hf
    obtain ⟨a0, e0, _⟩ := fm_int (k := 2) (cs := (cs.drop 0).take 1) (hf ⟨ "Kind", 3, 0, false, "", "", 0⟩ (by simp))
    obtain ⟨a1, e1, _⟩ := fm_int (k := 2) (cs := (cs.drop 1).take 1) (hf ⟨ "Vid", 3, 1, false, "", "", 8⟩ (by simp))
    obtain ⟨a2, e2, _⟩ := fm_int (k := 2) (cs := (cs.drop 2).take 1) (hf ⟨ "Port", 3, 2, false, "", "", 16⟩ (by simp))
    obtain ⟨m, em⟩ := fm_mac (k := 1) (cs := (cs.drop 3).take 6) (hf ⟨ "Mac", 37, 3, false, "", "", 24⟩ (by simp))
    obtain ⟨a9, e9⟩ := fm_i64 (k := 2) (cs := (cs.drop 9).take 1) (hf ⟨ "Later", 2, 9, false, "", "", 32⟩ (by simp))
    refine ⟨⟨a0, a1, a2, m, a9⟩, ?_⟩
    match cs, hl with
    | [c0, c1, c2, c3, c4, c5, c6, c7, c8, c9], _ =>
      simp at e0 e1 e2 e9
      simp [Mac6.cells] at em
      obtain ⟨m0, m1, m2, m3, m4, m5⟩ := em
      rw [e0, e1, e2, m0, m1, m2, m3, m4, m5, e9] at he
      exact he
  obtain ⟨L, hl, hL⟩ := pick_at n h4
  subst hl
  have hm : maxLen ≤ 9223372036854775807 := by decide
  exact ⟨L, ⟨A, cap, rfl, by omega, hL⟩, by omega⟩

end Go.Proofs.Ytddfjnjhgeofmaa
