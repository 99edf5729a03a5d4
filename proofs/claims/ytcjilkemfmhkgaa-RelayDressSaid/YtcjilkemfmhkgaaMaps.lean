import Derived.Test.YtcjilkemfmhkgaaLib
import Derived.Maps.RangeRun
namespace Go.Vc

/-! ### maps -/

/-- The entries of a map: key, value, stamp. -/
abbrev Ent (κ α : Type) := κ × α × Nat

def Ent.row {κ α : Type} (enc : κ → Value) (f : α → Value) (x : Ent κ α) : MapEntry := ⟨enc x.1, f x.2.1, x.2.2⟩
def Ent.pair {κ α : Type} (x : Ent κ α) : κ × α := (x.1, x.2.1)

/-- Values of a type that may be keys. -/
structure KeyT (E : Env) (t : Nat) {κ : Type} [DecidableEq κ] (enc : κ → Value) : Prop where
  check : ∀ b k w, (Instr.checkKey b 10000 t (enc k)).run E.P w = .ok () w
  eq : ∀ k k' w, (Op.equal t (enc k) (enc k')).run E.P w = .ok (decide (k = k')) w
  now : ∀ (d : TypeDesc) k k', E.P.underlying t = some d → Instr.sameNow d (enc k) (enc k') = none ∨ Instr.sameNow d (enc k) (enc k') = some (decide (k = k'))
  bits : ∀ k, Instr.sameBits 10000 (enc k) (enc k) = true

/-- Where a key stands. -/
def findE {κ α : Type} [DecidableEq κ] (enc : κ → Value) (f : α → Value) (k : κ) : List (Ent κ α) → Nat → Option (Nat × Value)
  | [], _ => none
  | x :: r, i => if k = x.1 then some (i, f x.2.1) else findE enc f k r (i + 1)

section
variable {κ α : Type} [DecidableEq κ] {E : Env} {t : Nat} {enc : κ → Value} {f : α → Value}

theorem findNow_ok (hK : KeyT E t enc) {d : TypeDesc} (hd : E.P.underlying t = some d) (k : κ) : ∀ (T : List (Ent κ α)) (i : Nat), Instr.findNow d (enc k) (T.map (Ent.row enc f)) i = none ∨ Instr.findNow d (enc k) (T.map (Ent.row enc f)) i = some (findE enc f k T i)
  | [], i => .inr rfl
  | x :: r, i => by
    simp only [List.map_cons, Instr.findNow, findE]
    have e : (Ent.row enc f x).key = enc x.1 := rfl
    rw [e]
    rcases hK.now d k x.1 hd with h | h
    · rw [h]; exact .inl rfl
    · rw [h]
      by_cases c : k = x.1
      · rw [if_pos c, decide_eq_true c]; exact .inr rfl
      · rw [if_neg c, decide_eq_false c]; exact findNow_ok hK hd k r (i + 1)

theorem findAsking_ok (hK : KeyT E t enc) (k : κ) (w : World) : ∀ (T : List (Ent κ α)) (i : Nat), (Instr.findAsking t (enc k) (T.map (Ent.row enc f)) i).run E.P w = .ok (findE enc f k T i) w
  | [], i => rfl
  | x :: r, i => by
    have e : (Ent.row enc f x).key = enc x.1 := rfl
    simp only [List.map_cons, Instr.findAsking, findE, Sem.run_bind, e, hK.eq, Result.andThen_ok]
    by_cases c : k = x.1
    · rw [decide_eq_true c, if_pos c]; rfl
    · rw [decide_eq_false c, if_neg c]
      exact findAsking_ok hK k w r (i + 1)

theorem findKey_ok (hE : E.Ok) {y : Ty} (hy : E.ty t = some y) (hK : KeyT E t enc) (k : κ) (T : List (Ent κ α)) (w : World) : (Instr.findKey t (enc k) (T.map (Ent.row enc f))).run E.P w = .ok (findE enc f k T 0) w := by
  unfold Instr.findKey
  simp only [Sem.run_bind, hE.underlying hy, Result.andThen_ok]
  rcases findNow_ok (α := α) (f := f) hK (hE.ty t y hy).und k T 0 with h | h
  · rw [h]; exact findAsking_ok hK k w T 0
  · rw [h]; rfl

def lk [DecidableEq κ] (L : List (κ × α)) (k : κ) : Option α := match L with
  | [] => none
  | x :: r => if k = x.1 then some x.2 else lk r k

/-- What a look at a map gives. -/
def lkV (f : α → Value) (z : Value) (ok : Bool) : Option α → Value
  | some a => match ok with
    | true => .tuple #[f a, .bool true]
    | false => f a
  | none => match ok with
    | true => .tuple #[z, .bool false]
    | false => z

theorem findE_none {k : κ} : ∀ {T : List (Ent κ α)} {i : Nat}, lk (T.map Ent.pair) k = none → findE enc f k T i = none
  | [], _, _ => rfl
  | x :: r, i, h => by
    simp only [List.map_cons, lk, Ent.pair] at h
    unfold findE
    split at h
    · cases h
    · rename_i c
      rw [if_neg c]
      exact findE_none h

theorem findE_some {k : κ} {a : α} : ∀ {T : List (Ent κ α)} {i : Nat}, lk (T.map Ent.pair) k = some a → ∃ j A x B, T = A ++ x :: B ∧ j = A.length ∧ x.1 = k ∧ x.2.1 = a ∧ findE enc f k T i = some (i + j, f a) ∧ ∀ y ∈ A, y.1 ≠ k
  | [], _, h => by simp [lk] at h
  | x :: r, i, h => by
    simp only [List.map_cons, lk, Ent.pair] at h
    unfold findE
    split at h
    · rename_i c
      injection h with h
      rw [if_pos c]
      exact ⟨0, [], x, r, rfl, rfl, c.symm, h, by rw [h]; rfl, by simp⟩
    · rename_i c
      rw [if_neg c]
      obtain ⟨j, A, x', B, e1, e2, e3, e4, e5, e6⟩ := findE_some (i := i + 1) h
      refine ⟨j + 1, x :: A, x', B, by rw [e1]; rfl, by rw [e2]; rfl, e3, e4, by rw [e5]; congr 2; omega, ?_⟩
      intro y hy
      rcases List.mem_cons.1 hy with rfl | hy
      · exact fun e => c e.symm
      · exact e6 y hy

end

/-- A map that lies in a heap: its entries in the order in which they came. -/
structure MapAt {κ α : Type} (enc : κ → Value) (f : α → Value) (h : Heap) (b : Nat) (L : List (κ × α)) : Prop where
  out : ∃ (T : List (Ent κ α)) (clock : Nat), h[b]? = some (.map (T.map (Ent.row enc f)).toArray clock) ∧ T.map Ent.pair = L ∧ T.Pairwise (fun x y => x.2.2 < y.2.2) ∧ (∀ x ∈ T, x.2.2 < clock) ∧ L.Pairwise fun x y => x.1 ≠ y.1

def Res.mp {κ α : Type} (enc : κ → Value) (f : α → Value) (b : Nat) (L : List (κ × α)) : Res := ⟨(· = b), fun h => MapAt enc f h b L,
  fun x k e => by obtain ⟨T, c, h1, _⟩ := x.out; subst e; exact lt_of_get h1,
  fun x k => by obtain ⟨T, c, h1, h2⟩ := x.out; exact ⟨T, c, (k b rfl).trans h1, h2⟩⟩

/-- A map that is ranged over: what is left of it is known, and which entry came last. -/
structure MapIt {κ α : Type} (enc : κ → Value) (f : α → Value) (h : Heap) (b r : Nat) (L left : List (κ × α)) (cur : Option (κ × α)) : Prop where
  out : ∃ (T : List (Ent κ α)) (clock : Nat) (seen : Array Nat), h[b]? = some (.map (T.map (Ent.row enc f)).toArray clock) ∧ h[r]? = some (.mapIter (some b) clock seen clock) ∧ T.map Ent.pair = L ∧ (T.filter fun x => !seen.contains x.2.2).map Ent.pair = left ∧
    T.Pairwise (fun x y => x.2.2 < y.2.2) ∧ (∀ x ∈ T, x.2.2 < clock) ∧ (L.Pairwise fun x y => x.1 ≠ y.1) ∧ ∀ x, cur = some x → ∃ y ∈ T, ∃ s : Array Nat, Ent.pair y = x ∧ seen = s.push y.2.2

def Res.mpIt {κ α : Type} (enc : κ → Value) (f : α → Value) (b r : Nat) (L left : List (κ × α)) (cur : Option (κ × α)) : Res := ⟨fun k => k = b ∨ k = r, fun h => MapIt enc f h b r L left cur,
  fun x k e => by obtain ⟨T, c, s, h1, h2, _⟩ := x.out; rcases e with e | e <;> subst e <;> first | exact lt_of_get h1 | exact lt_of_get h2,
  fun x k => by obtain ⟨T, c, s, h1, h2, h3⟩ := x.out; exact ⟨T, c, s, (k b (.inl rfl)).trans h1, (k r (.inr rfl)).trans h2, h3⟩⟩

section
variable {κ α : Type} {enc : κ → Value} {f : α → Value}

theorem MapAt.apart {h : Heap} {b : Nat} {L : List (κ × α)} (x : MapAt enc f h b L) : L.Pairwise fun x y => x.1 ≠ y.1 := by
  obtain ⟨T, c, _, _, _, _, hp⟩ := x.out
  exact hp

theorem MapIt.apart {h : Heap} {b r : Nat} {L left : List (κ × α)} {cur : Option (κ × α)} (x : MapIt enc f h b r L left cur) : L.Pairwise fun x y => x.1 ≠ y.1 := by
  obtain ⟨T, c, _, _, _, _, _, _, _, hp, _⟩ := x.out
  exact hp

theorem MapIt.at_ {h : Heap} {b r : Nat} {L left : List (κ × α)} {cur : Option (κ × α)} (x : MapIt enc f h b r L left cur) : MapAt enc f h b L := by
  obtain ⟨T, c, s, h1, h2, h3, h4, h5, h6, h7, _⟩ := x.out
  exact ⟨T, c, h1, h3, h5, h6, h7⟩

theorem Hp.fresh_map {h0 h : Heap} {rs : List Res} {b : Nat} (H : Hp h0 h (Res.ob b (.map #[] 0) :: rs)) : Hp h0 h (Res.mp enc f b [] :: rs) :=
  H.change 0 rfl (Keep.refl _ _) ⟨[], 0, H.get 0 rfl, rfl, List.Pairwise.nil, by simp, List.Pairwise.nil⟩ fun k hk => .inl hk

end

theorem setObj_ok {P : Program} {w : World} {r : Nat} {o o' : Obj} (hr : w.heap[r]? = some o) (ho : ∀ c T z, o ≠ .cells c T z) : ∃ w', (setObj r o').run P w = .ok () w' ∧ Same w w' ∧ Upd w.heap r o' w'.heap := by
  refine ⟨{ w with heap := w.heap.setIfInBounds r o' }, by cases o <;> first | exact absurd rfl (ho _ _ _) | simp only [setObj, Sem.run, hr], ⟨rfl, rfl, rfl⟩, ⟨by simp, ?_, fun k hk => ?_⟩⟩
  · simp only [Array.getElem?_setIfInBounds, lt_of_get hr, if_true]
  · simp only [Array.getElem?_setIfInBounds]
    rw [if_neg (fun e => hk e.symm)]

theorem modify_mid {β : Type} (A B : List β) (x y : β) {g : β → β} (hg : g x = y) : ((A ++ x :: B).toArray).modify A.length g = (A ++ y :: B).toArray := by
  subst hg
  apply Array.toList_inj.1
  rw [Array.toList_modify]
  show (A ++ x :: B).modify A.length g = A ++ g x :: B
  induction A with
  | nil => rfl
  | cons a A ih => simp [ih]

section
variable {κ α : Type} {E : Env} {enc : κ → Value} {f : α → Value}

theorem MapAt.len (hE : E.Ok) {t kt et ty b : Nat} {yt : Ty} {h : Heap} {L : List (κ × α)} {K : Value → Prop} (x : MapAt enc f h b L) (hyt : E.ty t = some yt) (hdt : yt.desc = .map kt et) (g : K (.int .i64 (L.length : Nat))) : RdK E.P (Builtin.len_ #[t] ty #[.map (some b)]) h K := by
  obtain ⟨T, c, h1, h2, _⟩ := x.out
  refine ⟨_, fun w hw => ?_, g⟩
  have h1 := hw.get h1 (fun f => f)
  have hu := hE.underlying hyt w
  rw [hdt] at hu
  have hl : L.length = T.length := by rw [← h2, List.length_map]
  simp [Builtin.len_, hu, getObj, Sem.run, h1, goInt, hl]

/-- A range over a map begins. -/
theorem Hp.mapRange (hE : E.Ok) {t kt et b : Nat} {yt : Ty} {h0 h : Heap} {rs : List Res} {L : List (κ × α)} {K : Value → Heap → Prop} (H : Hp h0 h rs) (i : Nat) (hn : nth rs i = some (Res.mp enc f b L)) (hyt : E.ty t = some yt) (hdt : yt.desc = .map kt et)
    (g : ∀ r h', Hp h0 h' (setN rs i (Res.mpIt enc f b r L L none)) → K (.pointer (some ⟨r, 0, none⟩)) h') : SemK E.P (Instr.range t (.map (some b))) h K := by
  refine ⟨fun w hw => ?_⟩
  subst hw
  have x : MapAt enc f w.heap b L := H.get i hn
  obtain ⟨T, c, h1, h2, h3, h4, h5⟩ := x.out
  have hu := hE.underlying hyt w
  rw [hdt] at hu
  have N := New.push w.heap (.mapIter (some b) c #[] c)
  refine ⟨.pointer (some ⟨w.heap.size, 0, none⟩), { w with heap := w.heap.push (.mapIter (some b) c #[] c) }, by simp [Instr.range, hu, getObj, Sem.run, h1, newObj], ⟨rfl, rfl, rfl⟩, g _ _ (H.change i hn (N.keep) ?_ ?_)⟩
  · refine ⟨T, c, #[], N.got h1, N.get, h2, ?_, h3, h4, h5, fun x e => by cases e⟩
    rw [← h2]
    congr 1
    rw [List.filter_eq_self]
    intro x hx
    simp
  · rintro k (e | e)
    · exact .inl e
    · exact .inr (by rw [e]; exact Nat.le_refl _)

/-- The entry that came last. -/
theorem Hp.mapCur {b r : Nat} {P : Program} {h0 h : Heap} {rs : List Res} {L left : List (κ × α)} {x : κ × α} {K : Value → Heap → Prop} (H : Hp h0 h rs) (i : Nat) (hn : nth rs i = some (Res.mpIt enc f b r L left (some x))) (g : K (.tuple #[enc x.1, f x.2]) h) :
    SemK P (Instr.entry (.pointer (some ⟨r, 0, none⟩))) h K := by
  refine ⟨fun w hw => ?_⟩
  subst hw
  have m : MapIt enc f w.heap b r L left (some x) := H.get i hn
  obtain ⟨T, c, s, h1, hr, h2, hl, h3, h4, h5, h6⟩ := m.out
  obtain ⟨y, hy, s', rfl, rfl⟩ := h6 x rfl
  refine ⟨_, w, run_entry_at (P := P) w r b c s' (T.map (Ent.row enc f)).toArray c (Ent.row enc f y) hr h1 (by simpa using List.mem_map_of_mem hy) ?_, Same.refl _, g⟩
  simp only [List.map_map]
  exact List.pairwise_map.2 (h3.imp fun h => Nat.ne_of_lt h)

/-- It ends. -/
theorem Hp.mapDone {h0 h : Heap} {rs : List Res} {b r : Nat} {L left : List (κ × α)} {cur : Option (κ × α)} (H : Hp h0 h rs) (i : Nat) (hn : nth rs i = some (Res.mpIt enc f b r L left cur)) : Hp h0 h (setN rs i (Res.mp enc f b L)) :=
  H.change i hn (Keep.refl _ _) (MapIt.at_ (H.get i hn)) fun k hk => .inl (.inl hk)

theorem Hp.mapNext {b r ty : Nat} {P : Program} {h0 h : Heap} {rs : List Res} {L left : List (κ × α)} {cur : Option (κ × α)} {K : Value → Heap → Prop} (H : Hp h0 h rs) (i : Nat) (hn : nth rs i = some (Res.mpIt enc f b r L left cur))
    (g0 : left = [] → K (.tuple #[.bool false]) h) (g1 : ∀ A x B h', left = A ++ x :: B → Hp h0 h' (setN rs i (Res.mpIt enc f b r L (A ++ B) (some x))) → K (.tuple #[.bool true, enc x.1, f x.2]) h') :
    SemK P (Instr.next (.pointer (some ⟨r, 0, none⟩)) false ty) h K := by
  refine ⟨fun w hw => ?_⟩
  subst hw
  have x : MapIt enc f w.heap b r L left cur := H.get i hn
  obtain ⟨T, c, s, h1, hr, h2, hl, h3, h4, h5, _⟩ := x.out
  have hlo : (leftOf (T.map (Ent.row enc f)).toArray s).toList = (T.filter fun x => !s.contains x.2.2).map (Ent.row enc f) := by
    unfold leftOf
    rw [Array.toList_filter, List.filter_map]
    rfl
  rcases run_next_at (P := P) w ty r b c c s (T.map (Ent.row enc f)).toArray c hr h1 (fun x hx => by
    simp only [List.mem_map] at hx
    obtain ⟨y, hy, rfl⟩ := hx
    exact h4 y hy) (Nat.le_refl _) with ⟨e0, hrun⟩ | ⟨e, he, w1, hw1, hrun⟩
  · have h0 : left = [] := by
      rw [← hl]
      have : ((T.filter fun x => !s.contains x.2.2).map (Ent.row enc f)).length = 0 := by rw [← hlo]; simpa using e0
      rw [List.length_map] at this
      rw [List.eq_nil_of_length_eq_zero this]
      rfl
    exact ⟨_, w, hrun, Same.refl _, g0 h0⟩
  · rw [hlo, List.mem_map] at he
    obtain ⟨y, hy, rfl⟩ := he
    have hw1h : w1.heap = w.heap ∧ Same w w1 := by rcases hw1 with rfl | rfl <;> exact ⟨rfl, rfl, rfl, rfl⟩
    have hne : b ≠ r := by
      intro e
      rw [← e, h1] at hr
      cases hr
    have hu : Upd w.heap r (.mapIter (some b) c (s.push y.2.2) c) (ChangeMaps.setBlock w1 r (.mapIter (some b) c (s.push y.2.2) c)).heap := by
      unfold ChangeMaps.setBlock
      rw [hw1h.1]
      refine ⟨by simp, ?_, fun k hk => ?_⟩
      · simp only [Array.getElem?_setIfInBounds, lt_of_get hr, if_true]
      · simp only [Array.getElem?_setIfInBounds]
        rw [if_neg (fun e => hk e.symm)]
    obtain ⟨A, B, hAB⟩ := List.append_of_mem hy
    have hnd : (A ++ y :: B).Pairwise (fun x y => x.2.2 < y.2.2) := by rw [← hAB]; exact h3.sublist List.filter_sublist
    rw [List.pairwise_append, List.pairwise_cons] at hnd
    refine ⟨_, _, hrun, ⟨hw1h.2.os, hw1h.2.tape, hw1h.2.output⟩, g1 (A.map Ent.pair) (Ent.pair y) (B.map Ent.pair) _ (by rw [← hl, hAB, List.map_append, List.map_cons]) (H.change i hn (hu.keep.mono fun k _ e => .inr e) ⟨T, c, s.push y.2.2, (hu.old b hne).trans h1, hu.get, h2, ?_, h3, h4, h5, fun x e => ⟨y, (List.mem_filter.1 hy).1, s, by injection e, rfl⟩⟩ fun k hk => .inl hk)⟩
    have e2 : (T.filter fun x => !(s.push y.2.2).contains x.2.2) = A ++ B := by
      have e3 : (T.filter fun x => !(s.push y.2.2).contains x.2.2) = (T.filter fun x => !s.contains x.2.2).filter fun x => decide (x.2.2 ≠ y.2.2) := by
        rw [List.filter_filter]
        congr 1
        funext x
        simp [Array.contains_push, Bool.and_comm, eq_comm]
      rw [e3, hAB, List.filter_append, List.filter_cons]
      rw [decide_eq_false (by simp)]
      rw [List.filter_eq_self.2 (fun z hz => decide_eq_true (by have := hnd.2.2 z hz y (by simp); omega)), List.filter_eq_self.2 (fun z hz => decide_eq_true (by have := hnd.2.1.1 z hz; omega))]
      rfl
    rw [e2, List.map_append]

end

section
variable {κ α : Type} [DecidableEq κ] {E : Env} {enc : κ → Value} {f : α → Value}

theorem lookup_ok (hE : E.Ok) {t kt et b : Nat} {yt yk ye : Ty} {z : Value} {h : Heap} {L : List (κ × α)} (x : MapAt enc f h b L) (hyt : E.ty t = some yt) (hdt : yt.desc = .map kt et) (hyk : E.ty kt = some yk) (hye : E.ty et = some ye) (hz : ye.zero = some z) (hK : KeyT E kt enc) (k : κ) (ok : Bool)
    (w : World) (hw : Keep (fun _ => False) h w.heap) : (Instr.lookup t (.map (some b)) (enc k) ok).run E.P w = .ok (lkV f z ok (lk L k)) w := by
  obtain ⟨T, c, h1, h2, _⟩ := x.out
  have h1 := hw.get h1 (fun f => f)
  have hu := hE.underlying hyt w
  rw [hdt] at hu
  simp only [Instr.lookup, Sem.run_bind, hu, Result.andThen_ok, getObj, Sem.run, h1, Sem.run_pure, hK.check, findKey_ok hE hyk hK k T w]
  cases hl : lk L k with
  | none =>
    rw [← h2] at hl
    rw [findE_none hl]
    simp only [Sem.run_bind, hE.zeroValue hye hz, Result.andThen_ok, Sem.run_pure]
    cases ok <;> rfl
  | some a =>
    rw [← h2] at hl
    obtain ⟨j, A, x, B, _, _, _, _, e, _⟩ := findE_some (enc := enc) (f := f) (i := 0) hl
    rw [e]
    cases ok <;> rfl

theorem MapAt.lookup (hE : E.Ok) {t kt et b : Nat} {yt yk ye : Ty} {z : Value} {h : Heap} {L : List (κ × α)} {K : Value → Prop} {ok : Bool} {k : κ} {v : Value} (x : MapAt enc f h b L) (hK : KeyT E kt enc) (hv : v = enc k) (hyt : E.ty t = some yt) (hdt : yt.desc = .map kt et) (hyk : E.ty kt = some yk) (hye : E.ty et = some ye) (hz : ye.zero = some z)
    {u : Value} (hu : lkV f z ok (lk L k) = u) (g : K u) : RdK E.P (Instr.lookup t (.map (some b)) v ok) h K := by
  subst hv
  exact ⟨_, fun w hw => lookup_ok hE x hyt hdt hyk hye hz hK k ok w hw, hu ▸ g⟩


/-- What a map has once k has a. -/
def mput (k : κ) (a : α) : List (κ × α) → List (κ × α)
  | [] => [(k, a)]
  | x :: r => if k = x.1 then (k, a) :: r else x :: mput k a r

def mdel (k : κ) (L : List (κ × α)) : List (κ × α) := L.filter fun x => decide (¬ x.1 = k)

theorem mput_none {k : κ} {a : α} : ∀ {L : List (κ × α)}, lk L k = none → mput k a L = L ++ [(k, a)]
  | [], _ => rfl
  | x :: r, h => by
    simp only [lk] at h
    split at h
    · cases h
    · rename_i c
      simp only [mput]
      rw [if_neg c, mput_none h, List.cons_append]

theorem mput_mid {k : κ} {a b : α} : ∀ {A B : List (κ × α)}, (∀ y ∈ A, y.1 ≠ k) → mput k a (A ++ (k, b) :: B) = A ++ (k, a) :: B
  | [], B, _ => by simp only [List.nil_append, mput, if_true]
  | x :: A, B, h => by
    simp only [List.cons_append, mput]
    rw [if_neg (fun e => h x (by simp) e.symm), mput_mid fun y hy => h y (by simp [hy])]

theorem lk_none {k : κ} : ∀ {L : List (κ × α)}, lk L k = none ↔ ∀ x ∈ L, x.1 ≠ k
  | [] => by simp [lk]
  | x :: r => by
    simp only [lk]
    split
    · rename_i c
      constructor
      · intro h; cases h
      · intro h; exact absurd c.symm (h x (by simp))
    · rename_i c
      rw [lk_none (L := r)]
      constructor
      · intro h y hy
        rcases List.mem_cons.1 hy with rfl | hy
        · exact fun e => c e.symm
        · exact h y hy
      · intro h y hy
        exact h y (by simp [hy])

theorem mdel_none {k : κ} {L : List (κ × α)} (h : lk L k = none) : mdel k L = L := by
  unfold mdel
  rw [List.filter_eq_self]
  intro x hx
  exact decide_eq_true (lk_none.1 h x hx)

theorem update_ok (hE : E.Ok) {t kt et b : Nat} {yt yk : Ty} {h : Heap} {L : List (κ × α)} (x : MapAt enc f h b L) (hyt : E.ty t = some yt) (hdt : yt.desc = .map kt et) (hyk : E.ty kt = some yk) (hK : KeyT E kt enc) (k : κ) (a : α)
    (w : World) (hw : w.heap = h) : ∃ w', (Instr.mapUpdate t (.map (some b)) (enc k) (f a)).run E.P w = .ok () w' ∧ Same w w' ∧ Keep (· = b) h w'.heap ∧ MapAt enc f w'.heap b (mput k a L) := by
  subst hw
  obtain ⟨T, c, h1, h2, h3, h4, h5⟩ := x.out
  have hu := hE.underlying hyt w
  rw [hdt] at hu
  simp only [Instr.mapUpdate, Sem.run_bind, hu, Result.andThen_ok, getObj, Sem.run, h1, hK.check, findKey_ok hE hyk hK k T w]
  cases hl : lk L k with
  | none =>
    rw [← h2] at hl
    rw [findE_none hl]
    rw [h2] at hl
    have e : (T.map (Ent.row enc f)).toArray.push { key := enc k, val := f a, born := c } = ((T ++ [(k, a, c)]).map (Ent.row enc f)).toArray := by simp [Ent.row]
    simp only [e]
    obtain ⟨w', hr, hs, hu⟩ := setObj_ok (P := E.P) (o' := .map ((T ++ [(k, a, c)]).map (Ent.row enc f)).toArray (c + 1)) h1 (fun _ _ _ e => by cases e)
    refine ⟨w', hr, hs, hu.keep, ⟨T ++ [(k, a, c)], c + 1, hu.get, by rw [mput_none hl, ← h2]; simp [Ent.pair], ?_, ?_, ?_⟩⟩
    · rw [List.pairwise_append]
      refine ⟨h3, List.pairwise_singleton _ _, fun x hx y hy => ?_⟩
      rw [List.mem_singleton.1 hy]
      exact h4 x hx
    · intro x hx
      rcases List.mem_append.1 hx with hx | hx
      · have := h4 x hx
        omega
      · rw [List.mem_singleton.1 hx]
        exact Nat.lt_succ_self c
    · rw [mput_none hl, List.pairwise_append]
      refine ⟨h5, List.pairwise_singleton _ _, fun x hx y hy => ?_⟩
      rw [List.mem_singleton.1 hy]
      exact lk_none.1 hl x hx
  | some a0 =>
    rw [← h2] at hl
    obtain ⟨j, A, x, B, e1, e2, e3, e4, e5, e6⟩ := findE_some (enc := enc) (f := f) (i := 0) hl
    rw [e5]
    have hj : (T.map (Ent.row enc f)).toArray[0 + j]? = some (Ent.row enc f x) := by
      rw [e1, e2]
      simp
    have hkey : (Ent.row enc f x).key = enc k := by rw [← e3]; rfl
    simp only [hj, Option.map_some, Option.getD_some, hkey, Instr.keyThatStays, hK.bits, if_true, Sem.run_pure, Sem.run_bind, Result.andThen_ok]
    have hm : (T.map (Ent.row enc f)).toArray.modify (0 + j) (fun e => { e with key := enc k, val := f a }) = ((A ++ (k, a, x.2.2) :: B).map (Ent.row enc f)).toArray := by
      rw [e1, e2, List.map_append, List.map_cons, Nat.zero_add]
      have := modify_mid (A.map (Ent.row enc f)) (B.map (Ent.row enc f)) (Ent.row enc f x) (Ent.row enc f (k, a, x.2.2)) (g := fun e => { e with key := enc k, val := f a }) rfl
      rw [List.length_map] at this
      rw [this, List.map_append, List.map_cons]
    simp only [hm]
    obtain ⟨w', hr, hs, hu⟩ := setObj_ok (P := E.P) (o' := .map ((A ++ (k, a, x.2.2) :: B).map (Ent.row enc f)).toArray c) h1 (fun _ _ _ e => by cases e)
    have hL : L = A.map Ent.pair ++ (k, a0) :: B.map Ent.pair := by
      rw [← h2, e1, List.map_append, List.map_cons]
      show _ ++ (x.1, x.2.1) :: _ = _
      rw [e3, e4]
    have hP : mput k a L = A.map Ent.pair ++ (k, a) :: B.map Ent.pair := by
      rw [hL]
      refine mput_mid fun y hy => ?_
      obtain ⟨z, hz, rfl⟩ := List.mem_map.1 hy
      exact e6 z hz
    refine ⟨w', hr, hs, hu.keep, ⟨A ++ (k, a, x.2.2) :: B, c, hu.get, by rw [hP, List.map_append, List.map_cons]; rfl, ?_, ?_, ?_⟩⟩
    · rw [e1, List.pairwise_append, List.pairwise_cons] at h3
      rw [List.pairwise_append, List.pairwise_cons]
      refine ⟨h3.1, ⟨fun y hy => h3.2.1.1 y hy, h3.2.1.2⟩, fun y hy z hz => ?_⟩
      rcases List.mem_cons.1 hz with rfl | hz
      · exact h3.2.2 y hy x (by simp)
      · exact h3.2.2 y hy z (by simp [hz])
    · intro y hy
      rcases List.mem_append.1 hy with hy | hy
      · exact h4 y (by rw [e1]; simp [hy])
      · rcases List.mem_cons.1 hy with rfl | hy
        · exact h4 x (by rw [e1]; simp)
        · exact h4 y (by rw [e1]; simp [hy])
    · rw [hL, List.pairwise_append, List.pairwise_cons] at h5
      rw [hP, List.pairwise_append, List.pairwise_cons]
      refine ⟨h5.1, ⟨fun y hy => h5.2.1.1 y hy, h5.2.1.2⟩, fun y hy z hz => ?_⟩
      rcases List.mem_cons.1 hz with rfl | hz
      · exact h5.2.2 y hy (k, a0) (by simp)
      · exact h5.2.2 y hy z (by simp [hz])

/-- Within Hp: an assignment to an entry. -/
theorem Hp.mapPut (hE : E.Ok) {t kt et b : Nat} {yt yk : Ty} {h0 h : Heap} {rs : List Res} {L : List (κ × α)} {k : κ} {a : α} {kv av u : Value} {K : Value → Heap → Prop} (H : Hp h0 h rs) (i : Nat) (hn : nth rs i = some (Res.mp enc f b L)) (hK : KeyT E kt enc) (hk : kv = enc k) (ha : av = f a)
    (hyt : E.ty t = some yt) (hdt : yt.desc = .map kt et) (hyk : E.ty kt = some yk) (g : ∀ h', Hp h0 h' (setN rs i (Res.mp enc f b (mput k a L))) → K u h') :
    SemK E.P (do Instr.mapUpdate t (.map (some b)) kv av; pure u) h K := by
  subst hk ha
  refine ⟨fun w hw => ?_⟩
  obtain ⟨w', hr, hs, hk, hm⟩ := update_ok hE (H.get i hn) hyt hdt hyk hK k a w hw
  refine ⟨u, w', by simp only [Sem.run_bind, hr, Result.andThen_ok, Sem.run_pure], hs, g _ (H.change i hn hk hm fun k hk => .inl hk)⟩

theorem delete_ok (hE : E.Ok) {t kt et b : Nat} {yt yk : Ty} {h : Heap} {T : List (Ent κ α)} {c ty : Nat} {ts : Array TypeId} (h1 : h[b]? = some (.map (T.map (Ent.row enc f)).toArray c)) (hap : (T.map Ent.pair).Pairwise fun x y => x.1 ≠ y.1) (ht : ts[0]? = some t) (hyt : E.ty t = some yt) (hdt : yt.desc = .map kt et) (hyk : E.ty kt = some yk) (hK : KeyT E kt enc) (k : κ)
    (w : World) (hw : w.heap = h) : ∃ w', (Builtin.delete_ ts ty #[.map (some b), enc k]).run E.P w = .ok (.tuple #[]) w' ∧ Same w w' ∧ Upd h b (.map ((T.filter fun x => decide (¬ x.1 = k)).map (Ent.row enc f)).toArray c) w'.heap := by
  subst hw
  have hu := hE.underlying hyt w
  rw [hdt] at hu
  have e0 : (#[.map (some b), enc k] : Array Value)[0]? = some (.map (some b)) := rfl
  have e1 : (#[.map (some b), enc k] : Array Value)[1]? = some (enc k) := rfl
  simp only [Builtin.delete_, ht, e0, e1, Sem.run_bind, hu, Result.andThen_ok, getObj, Sem.run, h1, hK.check, findKey_ok hE hyk hK k T w]
  cases hl : lk (T.map Ent.pair) k with
  | none =>
    rw [findE_none hl]
    have e : (T.filter fun x => decide (¬ x.1 = k)) = T := by
      rw [List.filter_eq_self]
      intro x hx
      exact decide_eq_true (lk_none.1 hl (Ent.pair x) (List.mem_map_of_mem hx))
    rw [e]
    obtain ⟨w', hr, hs, hu⟩ := setObj_ok (P := E.P) (o' := .map (T.map (Ent.row enc f)).toArray c) h1 (fun _ _ _ e => by cases e)
    exact ⟨w', by simp only [Sem.run_bind, hr, Result.andThen_ok, Sem.run_pure], hs, hu⟩
  | some a0 =>
    obtain ⟨j, A, x, B, e1, e2, e3, e4, e5, e6⟩ := findE_some (enc := enc) (f := f) (i := 0) hl
    rw [e5]
    have hB : ∀ y ∈ B, y.1 ≠ k := by
      intro y hy e
      rw [e1, List.map_append, List.map_cons, List.pairwise_append, List.pairwise_cons] at hap
      exact hap.2.1.1 (Ent.pair y) (List.mem_map_of_mem hy) (e3.trans e.symm)
    have e : (T.filter fun x => decide (¬ x.1 = k)) = A ++ B := by
      rw [e1, List.filter_append, List.filter_cons]
      rw [decide_eq_false (by simp [e3])]
      rw [List.filter_eq_self.2 (fun y hy => decide_eq_true (e6 y hy)), List.filter_eq_self.2 (fun y hy => decide_eq_true (hB y hy))]
      rfl
    have hm : (T.map (Ent.row enc f)).toArray.eraseIdxIfInBounds (0 + j) = ((A ++ B).map (Ent.row enc f)).toArray := by
      apply Array.toList_inj.1
      rw [Array.toList_eraseIdxIfInBounds, e1, e2]
      rw [Nat.zero_add, List.map_append, List.map_cons, List.map_append, List.eraseIdx_append_of_length_le (by simp)]
      simp
    simp only [hm]
    rw [e]
    obtain ⟨w', hr, hs, hu⟩ := setObj_ok (P := E.P) (o' := .map ((A ++ B).map (Ent.row enc f)).toArray c) h1 (fun _ _ _ e => by cases e)
    exact ⟨w', by simp only [Sem.run_bind, hr, Result.andThen_ok, Sem.run_pure], hs, hu⟩

theorem filter_pair {T : List (Ent κ α)} {k : κ} : (T.filter fun x => decide (¬ x.1 = k)).map Ent.pair = mdel k (T.map Ent.pair) := by
  unfold mdel
  rw [List.filter_map]
  rfl

theorem Hp.mapDel (hE : E.Ok) {t kt et b ty : Nat} {ts : Array TypeId} {yt yk : Ty} {h0 h : Heap} {rs : List Res} {L : List (κ × α)} {k : κ} {kv : Value} {K : Value → Heap → Prop} (H : Hp h0 h rs) (i : Nat) (hn : nth rs i = some (Res.mp enc f b L)) (hK : KeyT E kt enc) (hk : kv = enc k)
    (ht : ts[0]? = some t) (hyt : E.ty t = some yt) (hdt : yt.desc = .map kt et) (hyk : E.ty kt = some yk) (g : ∀ h', Hp h0 h' (setN rs i (Res.mp enc f b (mdel k L))) → K (.tuple #[]) h') :
    SemK E.P (Builtin.delete_ ts ty #[.map (some b), kv]) h K := by
  subst hk
  refine ⟨fun w hw => ?_⟩
  have x : MapAt enc f h b L := H.get i hn
  obtain ⟨T, c, h1, h2, h3, h4, h5⟩ := x.out
  obtain ⟨w', hr, hs, hu⟩ := delete_ok hE (ty := ty) h1 (by rw [h2]; exact h5) ht hyt hdt hyk hK k w hw
  refine ⟨_, w', hr, hs, g _ (H.change i hn hu.keep ⟨_, c, hu.get, by rw [filter_pair, h2], h3.sublist List.filter_sublist, fun x hx => h4 x ((List.mem_filter.1 hx).1), h5.sublist List.filter_sublist⟩ fun k hk => .inl hk)⟩

/-- The same while the map is ranged over. -/
theorem Hp.mapDelIt (hE : E.Ok) {t kt et b r ty : Nat} {ts : Array TypeId} {yt yk : Ty} {h0 h : Heap} {rs : List Res} {L left : List (κ × α)} {cur : Option (κ × α)} {k : κ} {kv : Value} {K : Value → Heap → Prop} (H : Hp h0 h rs) (i : Nat) (hn : nth rs i = some (Res.mpIt enc f b r L left cur)) (hK : KeyT E kt enc) (hk : kv = enc k)
    (ht : ts[0]? = some t) (hyt : E.ty t = some yt) (hdt : yt.desc = .map kt et) (hyk : E.ty kt = some yk) (g : ∀ h', Hp h0 h' (setN rs i (Res.mpIt enc f b r (mdel k L) (mdel k left) none)) → K (.tuple #[]) h') :
    SemK E.P (Builtin.delete_ ts ty #[.map (some b), kv]) h K := by
  subst hk
  refine ⟨fun w hw => ?_⟩
  have x : MapIt enc f h b r L left cur := H.get i hn
  obtain ⟨T, c, s, h1, hr0, h2, hl, h3, h4, h5, _⟩ := x.out
  obtain ⟨w', hr, hs, hu⟩ := delete_ok hE (ty := ty) h1 (by rw [h2]; exact h5) ht hyt hdt hyk hK k w hw
  have hne : r ≠ b := by
    intro e
    rw [e, h1] at hr0
    cases hr0
  refine ⟨_, w', hr, hs, g _ (H.change i hn (hu.keep.mono fun k _ e => .inl e) ⟨_, c, s, hu.get, (hu.old r hne).trans hr0, by rw [filter_pair, h2], ?_, h3.sublist List.filter_sublist, fun x hx => h4 x ((List.mem_filter.1 hx).1), h5.sublist List.filter_sublist, fun x e => by cases e⟩ fun k hk => .inl hk)⟩
  rw [← hl, ← filter_pair, List.filter_filter, List.filter_filter]
  congr 2
  funext x
  rw [Bool.and_comm]

end

theorem int_eq_run {E : Env} (hE : E.Ok) {t d : Nat} {y : Ty} {q : IntKind} {a b : Int} (hy : E.ty t = some y) (hd : y.desc = .int q) (w : World) : (Op.equalIn (d + 1) t (.int q a) (.int q b)).run E.P w = .ok (a == b) w := by
  simp [Op.equalIn, hE.underlying hy, hd]

theorem int_check_run {E : Env} (hE : E.Ok) {t d : Nat} {y : Ty} {q : IntKind} {c : Bool} {a : Int} (hy : E.ty t = some y) (hd : y.desc = .int q) (w : World) : (Instr.checkKey c (d + 1) t (.int q a)).run E.P w = .ok () w := by
  simp [Instr.checkKey, hE.underlying hy, hd]

theorem beq_decide {a b : Int} : (a == b) = decide (a = b) := rfl

theorem KeyT.int {E : Env} (hE : E.Ok) {t : Nat} {y : Ty} {q : IntKind} (hy : E.ty t = some y) (hd : y.desc = .int q) : KeyT E t (fun i : Int => .int q i) where
  check _ _ w := int_check_run hE (d := 9999) hy hd w
  eq k k' w := int_eq_run hE (d := 9999) hy hd w
  now d k k' h := by
    have := (hE.ty t y hy).und
    rw [hd] at this
    rw [this] at h
    injection h with h
    subst h
    right
    simp only [Instr.sameNow, if_true]
    rfl
  bits k := by simp [Instr.sameBits]

end Go.Vc
