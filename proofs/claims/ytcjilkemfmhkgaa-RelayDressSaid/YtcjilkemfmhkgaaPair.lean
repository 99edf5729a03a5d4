import Derived.Test.YtcjilkemfmhkgaaHd
namespace Go.Vc

/-! ### two resources as one -/

def Res.pair (p q : Res) : Res := ⟨fun k => p.blk k ∨ q.blk k, fun h => (p.at_ h ∧ q.at_ h) ∧ ∀ k, p.blk k → ¬ q.blk k,
  fun x k e => by
    rcases e with e | e
    · exact p.lt x.1.1 e
    · exact q.lt x.1.2 e,
  fun x k => ⟨⟨p.keep x.1.1 fun j hj => k j (.inl hj), q.keep x.1.2 fun j hj => k j (.inr hj)⟩, x.2⟩⟩

theorem Hp.unpair {h0 h : Heap} {rs : List Res} {p q : Res} (H : Hp h0 h (Res.pair p q :: rs)) : Hp h0 h (p :: q :: rs) := by
  obtain ⟨k, e, a⟩ := H
  obtain ⟨⟨⟨hp, hq⟩, hd⟩, ho⟩ := e (Res.pair p q) (by simp)
  rw [List.pairwise_cons] at a
  refine ⟨k, fun r hr => ?_, List.pairwise_cons.2 ⟨fun r hr j hj hrj => ?_, List.pairwise_cons.2 ⟨fun r hr j hj => a.1 r hr j (.inr hj), a.2⟩⟩⟩
  · rcases List.mem_cons.1 hr with rfl | hr
    · exact ⟨hp, fun j hj => ho j (.inl hj)⟩
    · rcases List.mem_cons.1 hr with rfl | hr
      · exact ⟨hq, fun j hj => ho j (.inr hj)⟩
      · exact e r (by simp [hr])
  · rcases List.mem_cons.1 hr with rfl | hr
    · exact hd j hj hrj
    · exact a.1 r hr j (.inl hj) hrj

theorem Hp.pair {h0 h : Heap} {rs : List Res} {p q : Res} (H : Hp h0 h (p :: q :: rs)) : Hp h0 h (Res.pair p q :: rs) := by
  obtain ⟨k, e, a⟩ := H
  rw [List.pairwise_cons, List.pairwise_cons] at a
  obtain ⟨a1, a2, a3⟩ := a
  have hp := e p (by simp)
  have hq := e q (by simp)
  refine ⟨k, fun r hr => ?_, List.pairwise_cons.2 ⟨fun r hr j hj => ?_, a3⟩⟩
  · rcases List.mem_cons.1 hr with rfl | hr
    · refine ⟨⟨⟨hp.1, hq.1⟩, fun j hj => a1 q (by simp) j hj⟩, fun j hj => ?_⟩
      rcases hj with hj | hj
      · exact hp.2 j hj
      · exact hq.2 j hj
    · exact e r (by simp [hr])
  · rcases hj with hj | hj
    · exact a1 r (by simp [hr]) j hj
    · exact a2 r hr j hj

/-- `x == nil` of a slice. -/
theorem slice_nil_run {E : Env} (hE : E.Ok) {t e d : Nat} {y : Ty} {a : Option Addr} {n c : Nat} (hy : E.ty t = some y) (hd : y.desc = .slice e) (w : World) :
    (Op.equalIn (d + 1) t (.slice a n c) (.slice none 0 0)).run E.P w = .ok a.isNone w := by
  cases a <;> simp [Op.equalIn, hE.underlying hy, hd]

theorem EqK.slice_nil {E : Env} (hE : E.Ok) {t e : Nat} {y : Ty} {a : Option Addr} {n c : Nat} {K : Bool → Prop} (hy : E.ty t = some y) (hd : y.desc = .slice e) (k : K a.isNone) : EqK E.P t (.slice a n c) (.slice none 0 0) K :=
  ⟨a.isNone, ⟨fun w => slice_nil_run hE (d := 9999) hy hd w, fun op ox oy w => by cases op <;> simp [eqGuard]⟩, k⟩

theorem own_shape {D : Nat} {h : Heap} {e size n : Nat} {v : Value} {xs : List Value} (o : OwnS D h e size v n xs) : ∃ A c, v = .slice A n c := by
  obtain ⟨_, ⟨c, rfl, rfl, _⟩ | ⟨b, cap, r, rfl, _⟩⟩ := o
  · exact ⟨none, c, rfl⟩
  · exact ⟨_, cap, rfl⟩

/-- Elements of one size that lie in a heap, as a slice. -/
structure RowsV {α : Type} (f : α → List Value) (n : Nat) (h : Heap) (v : Value) (xs : List α) : Prop where
  out : ∃ A c, v = .slice A xs.length c ∧ xs.length ≤ c ∧ ∀ (i : Nat) x, xs[i]? = some x → Elem h A (i * n) n (f x)

theorem RowsV.keep {α : Type} {f : α → List Value} {n : Nat} {h h' : Heap} {v : Value} {xs : List α} (x : RowsV f n h v xs) (k : Keep (fun _ => False) h h') : RowsV f n h' v xs := by
  obtain ⟨A, c, hv, hc, he⟩ := x.out
  exact ⟨A, c, hv, hc, fun i y hi => (he i y hi).keep k⟩

theorem RowsV.at_ {α : Type} {f : α → List Value} {n : Nat} {h : Heap} {A : Option Addr} {m c : Nat} {xs : List α} (x : RowsV f n h (.slice A m c) xs) {i : Nat} {y : α} (hi : xs[i]? = some y) : Elem h A (i * n) n (f y) := by
  obtain ⟨A', c', hv, hc, he⟩ := x.out
  injection hv with h1 _ _
  subst h1
  exact he i y hi

theorem RowsV.some {α : Type} {f : α → List Value} {n : Nat} {h : Heap} {A : Option Addr} {m c : Nat} {xs : List α} (x : RowsV f n h (.slice A m c) xs) (hn : 0 < xs.length) : ∃ b o, A = .some ⟨b, o, none⟩ := by
  obtain ⟨y, hy⟩ := list_at (L := xs) (i := 0) hn
  exact (x.at_ hy).some

/-- An element is read whole. -/
theorem rows_ld {α : Type} {f : α → List Value} {s : Nat} {E : Env} {t b o n c p : Nat} {h : Heap} {xs : List α} {i : Nat} {y : α} {T : Ty} {K : Value → Prop} (x : RowsV f s h (.slice (some ⟨b, o, none⟩) n c) xs) (hi : xs[i]? = some y) (hy : E.ty t = some T) (hs : T.size = s) (ha : T.agg = true) (hp : p = o + i * s)
    (k : K (.agg (f y).toArray)) : LdK E t (.pointer (some ⟨b, p, none⟩)) h K := by
  have e := x.at_ hi
  subst hs
  refine LdK.elem e hy (by rw [hp]) (.inl ha) ?_
  rw [ha]
  exact k

theorem RowsV.row {α : Type} {f : α → List Value} {s : Nat} {h : Heap} {A : Option Addr} {n c : Nat} {xs : List α} (x : RowsV f s h (.slice A n c) xs) (hf : ∀ y, (f y).length = s) (h1 : ∀ y, (f y).all oneCell = true) (hs : 0 < s) : Row h A (xs.flatMap f) := by
  refine Row.of_elems fun j v hj => ?_
  have hl := flat_length hf xs
  have hjl : j < (xs.flatMap f).length := by
    rcases Nat.lt_or_ge j (xs.flatMap f).length with h | h
    · exact h
    · rw [List.getElem?_eq_none h] at hj; cases hj
  have hdm := Nat.div_add_mod j s
  have hml := Nat.mod_lt j hs
  have hq : j / s < xs.length := by
    rw [hl] at hjl
    exact Nat.div_lt_of_lt_mul (by rw [Nat.mul_comm]; exact hjl)
  have hcm : s * (j / s) = j / s * s := Nat.mul_comm _ _
  obtain ⟨y, hy⟩ := list_at (L := xs) (i := j / s) hq
  have hat := flat_at hf hy
  have hv : (f y)[j % s]? = Option.some v := by
    rw [← hat, List.getElem?_take, if_pos hml, List.getElem?_drop, show j / s * s + j % s = j by omega]
    exact hj
  have e := x.at_ hy
  refine e.sub (j := j % s) (m := 1) (by omega) (by omega) ?_
  have hlt : j % s < (f y).length := by rw [hf]; exact hml
  rw [List.drop_eq_getElem_cons hlt]
  rw [List.getElem?_eq_getElem hlt] at hv
  injection hv with hv
  rw [hv]
  rfl

theorem RowsV.of_own {α : Type} {f : α → List Value} {s D e n : Nat} {h : Heap} {v : Value} {xs : List α} (o : OwnS D h e s v n (xs.flatMap f)) (hf : ∀ y, (f y).length = s) (hs : 0 < s) : RowsV f s h v xs := by
  have hl := flat_length hf xs
  obtain ⟨hn, ⟨c0, rfl, h2, h3⟩ | ⟨b, cap, r, rfl, hb, hg, hc⟩⟩ := o
  · subst h2
    have : xs = [] := by
      rcases Nat.eq_zero_or_pos xs.length with h | h
      · exact List.eq_nil_of_length_eq_zero h
      · have := Nat.mul_pos h hs
        omega
    subst this
    exact ⟨none, c0, rfl, Nat.zero_le _, fun i x hx => by simp at hx⟩
  · have hnl : n = xs.length := by
      rw [hl] at hn
      exact Nat.eq_of_mul_eq_mul_right hs hn
    subst hnl
    refine ⟨_, cap, rfl, ?_, fun i x hx => ?_⟩
    · rw [List.length_append, hl] at hc
      exact Nat.le_of_mul_le_mul_right (by omega) hs
    · exact (Row.of_cells hg (p := []) (q := r) (by simp) rfl).piece hf hs hx

end Go.Vc
