/- Slices, bytes and strings, over the condition generator. -/
import Derived.Test.YtcjilkemfmhkgaaVc
import Derived.Laws.Append
import Derived.Laws.IdiomStrings
import Derived.Laws.BytesString
namespace Go.Vc

/-! ### Rows: what slices read, and what is made -/

/-- Cells that lie one behind the other from an address on. -/
structure Row (h : Heap) (A : Option Addr) (xs : List Value) : Prop where
  out : xs = [] ∨ ∃ b o c T fz, A = some ⟨b, o, none⟩ ∧ h[b]? = some (.cells c T fz) ∧ o + xs.length ≤ c.size ∧ xs = (c.toList.drop o).take xs.length

theorem Row.nil (h : Heap) (A : Option Addr) : Row h A [] := ⟨.inl rfl⟩

theorem Row.keepS {S : Nat → Prop} {h h' : Heap} {A : Option Addr} {xs : List Value} (x : Row h A xs) (hk : Keep S h h') (hS : ∀ b o, A = some ⟨b, o, none⟩ → ¬ S b) : Row h' A xs := by
  rcases x.out with e | ⟨b, o, c, T, fz, hA, hb, hl, hc⟩
  · exact ⟨.inl e⟩
  · exact ⟨.inr ⟨b, o, c, T, fz, hA, hk.get hb (hS b o hA), hl, hc⟩⟩

theorem Row.keep {h h' : Heap} {A : Option Addr} {xs : List Value} (x : Row h A xs) (hk : Keep (fun _ => False) h h') : Row h' A xs := x.keepS hk fun _ _ _ f => f

theorem Row.of_cells {h : Heap} {b : Nat} {l : List Value} {T : TypeId} {fz : Nat × Nat} (hb : h[b]? = some (.cells l.toArray T fz)) {o : Nat} {p q xs : List Value} (hl : l = p ++ xs ++ q) (ho : o = p.length) :
    Row h (some ⟨b, o, none⟩) xs := by
  refine ⟨.inr ⟨b, o, l.toArray, T, fz, rfl, hb, ?_, ?_⟩⟩
  · subst hl ho; simp
  · subst hl ho; simp

theorem Row.sub {h : Heap} {b o : Nat} {xs : List Value} (x : Row h (some ⟨b, o, none⟩) xs) {i n o' : Nat} (hin : i + n ≤ xs.length) (ho : o' = o + i) : Row h (some ⟨b, o', none⟩) ((xs.drop i).take n) := by
  subst ho
  rcases x.out with e | ⟨b', o', c, T, fz, hA, hb, hl, hc⟩
  · subst e; simp; exact Row.nil _ _
  · injection hA with hA; injection hA with h1 h2 _
    subst h1 h2
    refine ⟨.inr ⟨b, o + i, c, T, fz, rfl, hb, ?_, ?_⟩⟩
    · simp only [List.length_take, List.length_drop]; omega
    · have : ((xs.drop i).take n).length = n := by simp only [List.length_take, List.length_drop]; omega
      rw [this]
      conv => lhs; rw [hc]
      rw [List.drop_take, List.take_take, List.drop_drop]
      congr 1
      omega

theorem Row.elem {h : Heap} {A : Option Addr} {xs : List Value} (x : Row h A xs) {i n : Nat} (hin : i + n ≤ xs.length) (hne : xs ≠ []) : Elem h A i n ((xs.drop i).take n) := by
  rcases x.out with e | ⟨b, o, c, T, fz, hA, hb, hl, hc⟩
  · exact absurd e hne
  · refine ⟨b, o, c, T, fz, hA, hb, by omega, ?_⟩
    conv => lhs; rw [hc]
    rw [List.drop_take, List.take_take, List.drop_drop]
    congr 1
    omega

theorem Row.at_ {h : Heap} {A : Option Addr} {xs : List Value} (x : Row h A xs) {i : Nat} {v : Value} (hi : xs[i]? = some v) : Elem h A i 1 [v] := by
  have hlt : i < xs.length := by
    rcases Nat.lt_or_ge i xs.length with h | h
    · exact h
    · rw [List.getElem?_eq_none h] at hi; cases hi
  have := x.elem (i := i) (n := 1) (by omega) (by intro e; subst e; simp at hlt)
  rw [List.getElem?_eq_getElem hlt] at hi
  injection hi with hi
  rw [← hi]
  have e : (xs.drop i).take 1 = [xs[i]] := by
    rw [List.drop_eq_getElem_cons hlt, List.take_succ_cons, List.take_zero]
  rw [e] at this
  exact this

theorem Row.of_elems {h : Heap} {A : Option Addr} {xs : List Value} (hx : ∀ (i : Nat) v, xs[i]? = some v → Elem h A i 1 [v]) : Row h A xs := by
  cases xs with
  | nil => exact Row.nil _ _
  | cons x r =>
    obtain ⟨b, o, c, T, fz, hA, hb, hl, hc⟩ := (hx 0 x rfl).out
    have hall : ∀ i v, (x :: r)[i]? = some v → o + i + 1 ≤ c.size ∧ c.toList[o + i]? = some v := by
      intro i v hv
      obtain ⟨b', o', c', T', fz', hA', hb', hl', hc'⟩ := (hx i v hv).out
      rw [hA] at hA'; injection hA' with hA'; injection hA' with h1 h2 _
      subst h1 h2
      rw [hb] at hb'; injection hb' with hb'; injection hb' with h3 _ _
      subst h3
      refine ⟨hl', ?_⟩
      have hlt : o + i < c.toList.length := by simp; omega
      rw [List.drop_eq_getElem_cons hlt] at hc'
      simp only [List.take_succ_cons, List.take_zero, List.cons.injEq, and_true] at hc'
      rw [List.getElem?_eq_getElem hlt, hc']
    have hlen := (hall r.length ((x :: r)[r.length]'(by simp)) (by rw [List.getElem?_eq_getElem])).1
    refine ⟨.inr ⟨b, o, c, T, fz, hA, hb, by simp; omega, ?_⟩⟩
    apply List.ext_getElem?
    intro i
    rcases Nat.lt_or_ge i (x :: r).length with h | h
    · rw [List.getElem?_take, if_pos h, List.getElem?_drop, (hall i ((x :: r)[i]) (List.getElem?_eq_getElem h)).2, List.getElem?_eq_getElem h]
    · rw [List.getElem?_eq_none h, List.getElem?_take, if_neg (by omega)]

theorem Row.firstCells {P : Program} {w : World} {A : Option Addr} {xs : List Value} (x : Row w.heap A xs) {size n m cap : Nat} (hn : n * size = xs.length) (h0 : A = none → n = 0) :
    (Builtin.firstCells size n (.slice A m cap)).run P w = .ok xs.toArray w := by
  cases A with
  | none =>
    have : n = 0 := h0 rfl
    subst this
    have : xs = [] := List.eq_nil_of_length_eq_zero (by omega)
    subst this
    simp [Builtin.firstCells]
  | some a =>
    simp only [Builtin.firstCells]
    rw [hn]
    rcases x.out with e | ⟨b, o, c, T, fz, hA, hb, hl, hc⟩
    · subst e
      simp [loadCells, loadCellsFrom]
    · injection hA with hA; subst hA
      rw [loadCells_ok hb xs.length (by omega)]
      congr 1
      apply Array.ext'
      simp only [Array.toList_extract]
      conv => rhs; rw [hc]
      simp [List.extract_eq_take_drop]

/-! ### append -/

theorem SemK.append_grow {E : Env} (hE : E.Ok) {t tx e ty : Nat} {y z x0 : Ty} {zv : Value} {A B : Option Addr} {n cap m c : Nat} {xs ys : List Value} {h : Heap} {K : Value → Heap → Prop}
    (hy : E.ty t = some y) (hd : y.desc = .slice e) (hz : E.ty e = some z) (hzv : z.zero = some zv) (hx0 : E.ty tx = some x0) (hdx : ∀ k, x0.desc ≠ .int k)
    (hA : Row h A xs) (hB : Row h B ys) (hxs : n * z.size = xs.length) (hys : m * z.size = ys.length) (hA0 : A = none → n = 0) (hB0 : B = none → m = 0)
    (hneed : cap < n + m) (hbytes : (n + m) * z.bytes ≤ 140737488355328) (hb0 : 0 < z.bytes)
    (k : ∀ b h' cap' r, New h (.cells (xs ++ ys ++ r).toArray e) b h' → n + m ≤ cap' → r.length = (cap' - (n + m)) * zv.cells.size → K (.slice (some ⟨b, 0, none⟩) (n + m) cap') h') :
    SemK E.P (Builtin.append_ #[t, tx] ty #[.slice A n cap, .slice B m c]) h K := by
  refine ⟨fun w hw => ?_⟩
  subst hw
  have hu := hE.underlying hy w
  rw [hd] at hu
  have hux := hE.underlying hx0 w
  have hz' : (match x0.desc with | .int _ => true | _ => false) = false := by
    cases hh : x0.desc <;> simp_all
  obtain ⟨i, hi, his, hib, hi0⟩ := (hE.ty e z hz).info
  have h64 : ¬ ((n : Int) + m > IntKind.i64.max ∧ i.bytes = 0) := by rw [hib]; omega
  have hbig : ¬ (Builtin.nextslicecap (n + m) cap * i.bytes > 281474976710656) := by
    rw [hib]
    have := growslice_fits hneed hbytes
    omega
  let q := Question.appendCap (n + m) cap e
  have hcut : n + m ≤ q.cut (w.tape w.drawn q) := by
    show n + m ≤ (n + m) + _
    omega
  let C := q.cut (w.tape w.drawn q)
  let r := (Builtin.zeroCells zv.cells (C - (n + m))).toList
  have hr : r.length = (C - (n + m)) * zv.cells.size := by simp [r, Builtin.zeroCells]
  have hrun : (Builtin.append_ #[t, tx] ty #[.slice A n cap, .slice B m c]).run E.P w =
      .ok (.slice (some ⟨w.heap.size, 0, none⟩) (n + m) C) { w with drawn := w.drawn + 1, heap := w.heap.push (.cells (xs ++ ys ++ r).toArray e) } := by
    have hf1 := fun w' (hw' : w'.heap = w.heap) => Row.firstCells (P := E.P) (w := w') (by rw [hw']; exact hA) (m := n) (cap := cap) hxs hA0
    have hf2 := fun w' (hw' : w'.heap = w.heap) => Row.firstCells (P := E.P) (w := w') (by rw [hw']; exact hB) (m := m) (cap := c) hys hB0
    have hzr := fun w' => hE.zeroValue hz hzv w'
    unfold Builtin.append_
    simp only [List.getElem?_toArray, List.getElem?_cons_zero, List.getElem?_cons_succ, Sem.run_bind, hu, hux, Result.andThen_ok, hE.sizeOf hz, hz', Sem.run_pure, Builtin.lenOf, Bool.false_eq_true, if_false, Bool.not_false, if_true]
    have hti : ∀ w', (typeInfo e).run E.P w' = .ok i w' := fun w' => by simp [typeInfo, hi]
    have hf0 : (Question.appendCap (n + m) cap e).forced = false := rfl
    have hbig' : ¬ (Builtin.nextslicecap (n + m) cap * i.bytes > 2 ^ 48) := hbig
    have h64' : ¬ ((((n + m : Nat) : Int)) > IntKind.i64.max ∧ (False ∨ i.bytes = 0)) := by
      rw [hib]; rintro ⟨_, h | h⟩
      · exact h
      · omega
    rw [if_neg (by omega)]
    simp only [Sem.run_bind, hti, Result.andThen_ok]
    rw [if_neg h64']
    simp only [Sem.run_bind, hti, Result.andThen_ok]
    rw [if_neg hbig']
    simp only [Sem.run_bind, hti, Result.andThen_ok, run_choose, hf0, Bool.false_eq_true, if_false, run_askRoom]
    rw [hf1 { w with drawn := w.drawn + 1 } rfl]
    simp only [Result.andThen_ok]
    rw [hf2 { w with drawn := w.drawn + 1 } rfl]
    simp only [Result.andThen_ok, hzr, newRow, Sem.run_bind, run_newObj, Sem.run_pure]
    have hZ : ∀ Z : Array Value, xs.toArray ++ ys.toArray ++ Z = (xs ++ ys ++ Z.toList).toArray := fun Z => by apply Array.ext'; simp
    rw [hZ]
  exact ⟨_, _, hrun, ⟨rfl, rfl, rfl⟩, k _ _ C r (New.push _ _) hcut hr⟩

theorem SemK.append_fit {E : Env} (hE : E.Ok) {t tx e ty : Nat} {y z x0 : Ty} {B : Option Addr} {g o n cap m c : Nat} {cs : Array Value} {T : TypeId} {ys : List Value} {h : Heap} {K : Value → Heap → Prop}
    (hy : E.ty t = some y) (hd : y.desc = .slice e) (hz : E.ty e = some z) (hx0 : E.ty tx = some x0) (hdx : ∀ k, x0.desc ≠ .int k)
    (hg : h[g]? = some (.cells cs T (0, 0))) (hB : Row h B ys) (hys : m * z.size = ys.length) (hB0 : B = none → m = 0) (hfit : n + m ≤ cap) (hroom : o + n * z.size + ys.length ≤ cs.size) (h1 : ys.all oneCell = true)
    (k : ∀ h', Upd h g (.cells (putCells cs (o + n * z.size) ys) T (0, 0)) h' → K (.slice (some ⟨g, o, none⟩) (n + m) cap) h') :
    SemK E.P (Builtin.append_ #[t, tx] ty #[.slice (some ⟨g, o, none⟩) n cap, .slice B m c]) h K := by
  refine ⟨fun w hw => ?_⟩
  subst hw
  have hu := hE.underlying hy w
  rw [hd] at hu
  have hux := hE.underlying hx0 w
  have hz' : (match x0.desc with | .int _ => true | _ => false) = false := by
    cases hh : x0.desc <;> simp_all
  obtain ⟨w', hr, hsm, hup⟩ := storeCells_ok (P := E.P) (o := o + n * z.size) ys 0 cs w hg (by simp; omega) h1
  have hf2 := Row.firstCells (P := E.P) (w := w) hB (m := m) (cap := c) hys hB0
  refine ⟨.slice (some ⟨g, o, none⟩) (n + m) cap, w', ?_, hsm, k _ hup⟩
  have ha : (⟨g, o, none⟩ : Addr).add (n * z.size) = ⟨g, o + n * z.size, none⟩ := by simp [Addr.add]
  unfold Builtin.append_
  simp only [List.getElem?_toArray, List.getElem?_cons_zero, List.getElem?_cons_succ, Sem.run_bind, hu, hux, Result.andThen_ok, hE.sizeOf hz, hz', Sem.run_pure, Builtin.lenOf, Bool.false_eq_true, if_false, Bool.not_false, if_true]
  rw [if_pos hfit]
  simp only [Sem.run_bind, hf2, Result.andThen_ok, ha, hr, Sem.run_pure]

theorem SemK.append_none {E : Env} (hE : E.Ok) {t tx e ty : Nat} {y z x0 : Ty} {B : Option Addr} {c : Nat} {h : Heap} {K : Value → Heap → Prop}
    (hy : E.ty t = some y) (hd : y.desc = .slice e) (hz : E.ty e = some z) (hx0 : E.ty tx = some x0) (hdx : ∀ k, x0.desc ≠ .int k) (k : K (.slice none 0 0) h) :
    SemK E.P (Builtin.append_ #[t, tx] ty #[.slice none 0 0, .slice B 0 c]) h K := by
  refine ⟨fun w hw => ?_⟩
  subst hw
  have hu := hE.underlying hy w
  rw [hd] at hu
  have hux := hE.underlying hx0 w
  have hz' : (match x0.desc with | .int _ => true | _ => false) = false := by
    cases hh : x0.desc <;> simp_all
  have hf2 := Row.firstCells (P := E.P) (w := w) (Row.nil w.heap B) (n := 0) (size := z.size) (m := 0) (cap := c) (by simp) (fun _ => rfl)
  refine ⟨.slice none 0 0, w, ?_, Same.refl _, k⟩
  unfold Builtin.append_
  simp only [List.getElem?_toArray, List.getElem?_cons_zero, List.getElem?_cons_succ, Sem.run_bind, hu, hux, Result.andThen_ok, hE.sizeOf hz, hz', Sem.run_pure, Builtin.lenOf, Bool.false_eq_true, if_false, Bool.not_false, if_true]
  rw [if_pos (by omega)]
  simp only [Sem.run_bind, hf2, Result.andThen_ok, Sem.run_pure]

/-- A slice of a block of one's own, made since a heap had so many blocks: what it holds lies ahead in the block. -/
def OwnS (B : Nat) (h : Heap) (e size : Nat) (v : Value) (n : Nat) (xs : List Value) : Prop :=
  n * size = xs.length ∧ ((∃ c, v = .slice none 0 c ∧ n = 0 ∧ c = 0) ∨ ∃ b cap r, v = .slice (some ⟨b, 0, none⟩) n cap ∧ B ≤ b ∧ h[b]? = some (.cells (xs ++ r).toArray e (0, 0)) ∧ (xs ++ r).length = cap * size)

/-- The blocks of a slice. -/
def blkOf (v : Value) (k : Nat) : Prop := match v with
  | .slice (some a) _ _ => k = a.block
  | _ => False

theorem putCells_mid : ∀ (ys p q r : List Value), q.length = ys.length → putCells (p ++ q ++ r).toArray p.length ys = (p ++ ys ++ r).toArray
  | [], p, q, r, h => by
    have : q = [] := List.eq_nil_of_length_eq_zero (by simpa using h)
    subst this; rfl
  | v :: ys, p, [], r, h => by simp at h
  | v :: ys, p, x :: q, r, h => by
    simp only [putCells]
    have e1 : (p ++ (x :: q) ++ r).toArray.setIfInBounds p.length v = ((p ++ [v]) ++ q ++ r).toArray := by
      simp [List.set_append]
    rw [e1]
    have e2 : p.length + 1 = (p ++ [v]).length := by simp
    rw [e2, putCells_mid ys (p ++ [v]) q r (by simpa using h)]
    simp

theorem OwnS.append {E : Env} (hE : E.Ok) {t tx e ty : Nat} {y z x0 : Ty} {zv : Value} {B : Option Addr} {D n m c : Nat} {v : Value} {xs ys : List Value} {h : Heap} {K : Value → Heap → Prop}
    (hy : E.ty t = some y) (hd : y.desc = .slice e) (hz : E.ty e = some z) (hzv : z.zero = some zv) (hzs : zv.cells.size = z.size) (hx0 : E.ty tx = some x0) (hdx : ∀ k, x0.desc ≠ .int k)
    (ho : OwnS D h e z.size v n xs) (hB : Row h B ys) (hys : m * z.size = ys.length) (hB0 : B = none → m = 0) (h1 : ys.all oneCell = true) (hD : D ≤ h.size)
    (hbytes : (n + m) * z.bytes ≤ 140737488355328) (hb0 : 0 < z.bytes) (hs0 : 0 < z.size)
    (k : ∀ v' h', OwnS D h' e z.size v' (n + m) (xs ++ ys) → Keep (blkOf v) h h' → (∀ j, blkOf v' j → blkOf v j ∨ h.size ≤ j) → K v' h') :
    SemK E.P (Builtin.append_ #[t, tx] ty #[v, .slice B m c]) h K := by
  obtain ⟨hn, ⟨c0, rfl, rfl, rfl⟩ | ⟨b, cap, r, rfl, hDb, hb, hl⟩⟩ := ho
  · have hxs : xs = [] := List.eq_nil_of_length_eq_zero (by omega)
    subst hxs
    rcases Nat.eq_zero_or_pos m with hm | hm
    · subst hm
      have hys' : ys = [] := List.eq_nil_of_length_eq_zero (by omega)
      subst hys'
      exact SemK.append_none hE hy hd hz hx0 hdx (k _ _ ⟨by simp, .inl ⟨0, rfl, rfl, rfl⟩⟩ (Keep.refl _ _) (fun j hj => hj.elim))
    · refine SemK.append_grow hE hy hd hz hzv hx0 hdx (Row.nil h none) hB (by simp) hys (fun _ => rfl) hB0 (by omega) hbytes hb0 fun b h' cap' r hnew hc hr => ?_
      refine k _ _ ⟨by simp; omega, .inr ⟨b, cap', r, rfl, ?_, hnew.get, ?_⟩⟩ hnew.keep (fun j hj => ?_)
      · have := hnew.at_; omega
      · rw [hzs] at hr
        simp only [List.nil_append, List.length_append, hr, ← hys]
        rw [← Nat.add_mul]; congr 1; omega
      · have := hnew.at_
        have hj : j = b := hj
        right; omega
  · rcases Nat.lt_or_ge cap (n + m) with hlt | hge
    · have hrow : Row h (some ⟨b, 0, none⟩) xs := Row.of_cells hb (p := []) (q := r) (by simp) rfl
      refine SemK.append_grow hE hy hd hz hzv hx0 hdx hrow hB hn hys (fun x => by cases x) hB0 hlt hbytes hb0 fun b' h' cap' r' hnew hc hr => ?_
      refine k _ _ ⟨by rw [Nat.add_mul, hn, hys]; simp, .inr ⟨b', cap', r', rfl, ?_, hnew.get, ?_⟩⟩ hnew.keep (fun j hj => ?_)
      · have := hnew.at_; omega
      · rw [hzs] at hr
        simp only [List.length_append, hr, ← hys, ← hn]
        rw [← Nat.add_mul, ← Nat.add_mul]; congr 1; omega
      · have := hnew.at_
        have hj : j = b' := hj
        right; omega
    · have hrl : ys.length ≤ r.length := by
        simp only [List.length_append, ← hn] at hl
        have : (n + m) * z.size ≤ cap * z.size := Nat.mul_le_mul_right _ hge
        rw [Nat.add_mul] at this
        omega
      refine SemK.append_fit hE hy hd hz hx0 hdx hb hB hys hB0 hge (by simp; omega) h1 fun h' hup => ?_
      have e0 : (xs ++ r) = xs ++ r.take ys.length ++ r.drop ys.length := by rw [List.append_assoc, List.take_append_drop]
      have e1 : putCells (xs ++ r).toArray (0 + n * z.size) ys = (xs ++ ys ++ r.drop ys.length).toArray := by
        rw [e0, Nat.zero_add, hn]
        exact putCells_mid ys xs _ _ (by simp; omega)
      rw [e1] at hup
      refine k _ _ ⟨by rw [Nat.add_mul, hn, hys]; simp, .inr ⟨b, cap, r.drop ys.length, rfl, hDb, hup.get, ?_⟩⟩ hup.keep (fun j hj => .inl hj)
      simp only [List.length_append, List.length_drop] at hl ⊢
      omega

theorem OwnS.row {D : Nat} {h : Heap} {e size n c : Nat} {A : Option Addr} {xs : List Value} (o : OwnS D h e size (.slice A n c) n xs) : Row h A xs := by
  obtain ⟨hn, ⟨c0, hv, rfl, _⟩ | ⟨b, cap, r, hv, _, hb, _⟩⟩ := o
  · have : xs = [] := List.eq_nil_of_length_eq_zero (by omega)
    subst this
    exact Row.nil _ _
  · injection hv with h1 _ _
    subst h1
    exact Row.of_cells hb (p := []) (q := r) (by simp) rfl

end Go.Vc

namespace Go.Vc

/-! ### bytes and strings -/

def byteV (b : UInt8) : Value := .int .u8 b.toNat

theorem byteV_one (L : List UInt8) : (L.map byteV).all oneCell = true := by
  rw [List.all_map]; simp [byteV, oneCell]

theorem modify_push (h : Heap) (o : Obj) (f : Obj → Obj) : (h.push o).modify h.size f = h.push (f o) := by
  apply Array.ext
  · simp
  · intro i h1 h2
    simp only [Array.getElem_modify, Array.getElem_push]
    split
    · rename_i e
      subst e
      simp
    · rename_i e
      split
      · rfl
      · rename_i e2
        simp at h2
        omega

theorem SemK.toBytes {E : Env} (hE : E.Ok) {src dst e : Nat} {x y z : Ty} {s : ByteArray} {h : Heap} {K : Value → Heap → Prop} (hx : E.ty src = some x) (hxd : x.desc = .string) (hy : E.ty dst = some y) (hyd : y.desc = .slice e)
    (hz : E.ty e = some z) (hzd : z.desc = .int .u8) (k : ∀ b h' cap r fz, New h (.cells (s.data.toList.map byteV ++ r).toArray e fz) b h' → s.size ≤ cap → K (.slice (some ⟨b, 0, none⟩) s.size cap) h') :
    SemK E.P (convert src dst (.string s)) h K := by
  refine ⟨fun w hw => ?_⟩
  subst hw
  have h1 := fun w' => hE.underlying hx w'
  have h2 := fun w' => hE.underlying hy w'
  have h3 := fun w' => hE.underlying hz w'
  rw [hxd] at h1
  rw [hyd] at h2
  rw [hzd] at h3
  let q := Question.appendCap s.size 0 e
  let C := q.cut (w.tape w.drawn q)
  have hcut : s.size ≤ C := by show s.size ≤ s.size + _; omega
  let cs := s.data.map (fun b => Value.int .u8 b.toNat) ++ Array.replicate (C - s.size) (.int .u8 0)
  have hcs : cs = (s.data.toList.map byteV ++ List.replicate (C - s.size) (Value.int .u8 0)).toArray := by
    apply Array.ext'; simp [cs, byteV]
  have hrun : (convert src dst (.string s)).run E.P w = .ok (.slice (some ⟨w.heap.size, 0, none⟩) s.size C) { w with drawn := w.drawn + 1, heap := w.heap.push (.cells cs e (cs.size, cs.size + 1)) } := by
    unfold convert
    simp only [Sem.run_bind, h1, h2, h3, Result.andThen_ok, Conv.stringToBytes]
    have hf0 : (Question.appendCap s.size 0 e).forced = false := rfl
    simp only [run_choose, hf0, Bool.false_eq_true, if_false, Result.andThen_ok, newRow, Sem.run_bind, run_newObj, Sem.run_pure, markStringish, run_shape]
    have hsh : World.shape? { w with drawn := w.drawn + 1, heap := w.heap.push (.cells cs e) } w.heap.size = some (e, cs.size) := by
      simp [World.shape?]
    have hfr : World.freeze { w with drawn := w.drawn + 1, heap := w.heap.push (.cells cs e) } ⟨w.heap.size, cs.size, none⟩ 1 = { w with drawn := w.drawn + 1, heap := w.heap.push (.cells cs e (cs.size, cs.size + 1)) } := by
      simp only [World.freeze]
      rw [if_neg (by omega), modify_push]
      simp
    show ((Sem.run E.P (match World.shape? { w with drawn := w.drawn + 1, heap := w.heap.push (.cells cs e) } w.heap.size with
      | some (_, n) => freeze { block := w.heap.size, off := n } 1
      | _ => pure ()) { w with drawn := w.drawn + 1, heap := w.heap.push (.cells cs e) }).andThen fun a w' => _) = _
    rw [hsh]
    simp only [run_freeze, Result.andThen_ok]
    rw [hfr]
  refine ⟨_, _, hrun, ⟨rfl, rfl, rfl⟩, k _ _ C (List.replicate (C - s.size) (Value.int .u8 0)) (cs.size, cs.size + 1) ?_ hcut⟩
  rw [hcs]
  exact New.push _ _

theorem RdK.toString {E : Env} (hE : E.Ok) {src dst e : Nat} {x y z : Ty} {A : Option Addr} {n c : Nat} {L : List UInt8} {h : Heap} {K : Value → Prop} (hx : E.ty src = some x) (hxd : x.desc = .slice e) (hy : E.ty dst = some y) (hyd : y.desc = .string)
    (hz : E.ty e = some z) (hzd : z.desc = .int .u8) (hr : Row h A (L.map byteV)) (hn : n = L.length) (h0 : A = none → n = 0) (k : K (.string ⟨L.toArray⟩)) :
    RdK E.P (convert src dst (.slice A n c)) h K := by
  refine ⟨_, fun w hw => ?_, k⟩
  replace hr := hr.keep hw
  have h1 := fun w' => hE.underlying hx w'
  have h2 := fun w' => hE.underlying hy w'
  have h3 := fun w' => hE.underlying hz w'
  rw [hxd] at h1
  rw [hyd] at h2
  rw [hzd] at h3
  unfold convert
  cases A with
  | none =>
    have : L = [] := List.eq_nil_of_length_eq_zero (by have := h0 rfl; omega)
    subst this
    simp only [Sem.run_bind, h1, h2, h3, Result.andThen_ok, Conv.bytesToString, Sem.run_pure]
    rfl
  | some a =>
    simp only [Sem.run_bind, h1, h2, h3, Result.andThen_ok]
    have hl : (loadCells a n).run E.P w = .ok ((L.map fun b => (b.toNat : Int)).map (Value.int .u8)).toArray w := by
      have := Row.firstCells (P := E.P) (w := w) hr (size := 1) (n := n) (m := n) (cap := c) (by simp; omega) h0
      rw [List.map_map]
      simp only [Builtin.firstCells, Nat.mul_one] at this
      exact this
    rw [run_bytesToString w a n c _ hl, foldl_push_byteCells]
    have : (ByteArray.empty.data ++ L.toArray) = L.toArray := by show (#[] : Array UInt8) ++ L.toArray = _; simp
    rw [this]

theorem SemK.make1 {E : Env} (hE : E.Ok) {t e : Nat} {y z : Ty} {zv : Value} {k1 k2 : IntKind} {l c : Int} {h : Heap} {K : Value → Heap → Prop} (hy : E.ty t = some y) (hd : y.desc = .slice e) (hz : E.ty e = some z) (hzv : z.zero = some zv)
    (hzc : zv.cells = #[zv]) (hs : z.size = 1) (h0 : 0 ≤ l) (hlc : l ≤ c) (hc : c ≤ 1000000000) (hb : z.bytes ≤ 1000)
    (k : ∀ b h', New h (.cells (List.replicate c.toNat zv).toArray e) b h' → K (.slice (some ⟨b, 0, none⟩) l.toNat c.toNat) h') : SemK E.P (Instr.makeSlice t (.int k1 l) (.int k2 c)) h K := by
  refine ⟨fun w hw => ?_⟩
  subst hw
  have h1 := fun w' => hE.underlying hy w'
  rw [hd] at h1
  obtain ⟨i, hi, his, hib, hi0⟩ := (hE.ty e z hz).info
  have hti : ∀ w', (typeInfo e).run E.P w' = .ok i w' := fun w' => by simp [typeInfo, hi]
  have wl : IntKind.i64.wrap l = l := wrap64_id (by omega) (by omega)
  have wc : IntKind.i64.wrap c = c := wrap64_id (by omega) (by omega)
  have hprod : (i.bytes : Int) * c ≤ 1000 * 1000000000 := Int.mul_le_mul (by omega) hc (by omega) (by omega)
  have hno : ¬ (decide (c < 0) || decide ((i.bytes : Int) * c > 2 ^ 48) || decide (l < 0) || decide (l > c)) = true := by
    simp only [Bool.or_eq_true, decide_eq_true_eq]
    omega
  have hrun : (Instr.makeSlice t (.int k1 l) (.int k2 c)).run E.P w = .ok (.slice (some ⟨w.heap.size, 0, none⟩) l.toNat c.toNat) { w with heap := w.heap.push (.cells (List.replicate c.toNat zv).toArray e) } := by
    unfold Instr.makeSlice
    have ha : ∀ (k : IntKind) (n : Int) w', (asInt (.int k n)).run E.P w' = .ok n w' := fun _ _ _ => rfl
    simp only [Sem.run_bind, h1, Result.andThen_ok, hti, ha, wl, wc]
    rw [if_neg hno]
    simp only [Sem.run_bind, run_askRoom, Result.andThen_ok, hE.sizeOf hz, hs, Nat.mul_one]
    by_cases h0' : c.toNat = 0
    · rw [if_pos h0']
      simp only [Sem.run_bind, Sem.run_pure, Result.andThen_ok, newRow, run_newObj, h0']
      have hrep : (Array.range 0).map (fun j => (#[] : Array Value)[j % (#[] : Array Value).size]!) = (List.replicate 0 zv).toArray := by apply Array.ext' ; simp [Array.toList_range]
      rw [hrep]
    · rw [if_neg h0']
      have hrep : (Array.range c.toNat).map (fun j => zv.cells[j % zv.cells.size]!) = (List.replicate c.toNat zv).toArray := by
        rw [hzc]
        apply Array.ext
        · simp
        · intro j h1 h2
          simp
          rw [Nat.mod_one]; rfl
      simp only [Sem.run_bind, Sem.run_pure, Result.andThen_ok, newRow, run_newObj, hE.zeroValue hz hzv, hrep]
  exact ⟨_, _, hrun, ⟨rfl, rfl, rfl⟩, k _ _ (New.push _ _)⟩

theorem SemK.copyS {E : Env} (hE : E.Ok) {t tx e ty : Nat} {y z : Ty} {B : Option Addr} {g o n cap m c : Nat} {cs : Array Value} {T : TypeId} {ys : List Value} {h : Heap} {K : Value → Heap → Prop}
    (hy : E.ty t = some y) (hd : y.desc = .slice e) (hz : E.ty e = some z) (hg : h[g]? = some (.cells cs T (0, 0))) (hB : Row h B ys) (hys : Nat.min m n * z.size = ys.length) (hB0 : B = none → m = 0)
    (hroom : o + ys.length ≤ cs.size) (h1 : ys.all oneCell = true)
    (k : ∀ h', Upd h g (.cells (putCells cs o ys) T (0, 0)) h' → K (.int .i64 (Nat.min m n : Nat)) h') :
    SemK E.P (Builtin.copy_ #[t, tx] ty #[.slice (some ⟨g, o, none⟩) n cap, .slice B m c]) h K := by
  refine ⟨fun w hw => ?_⟩
  subst hw
  have hu := hE.underlying hy w
  rw [hd] at hu
  obtain ⟨w', hr, hsm, hup⟩ := storeCells_ok (P := E.P) (o := o) ys 0 cs w hg (by simp; omega) h1
  have hf2 := Row.firstCells (P := E.P) (w := w) hB (n := Nat.min m n) (m := m) (cap := c) hys (fun x => by have := hB0 x; subst this; exact Nat.zero_min _)
  refine ⟨.int .i64 (Nat.min m n : Nat), w', ?_, hsm, k _ (by simpa using hup)⟩
  unfold Builtin.copy_
  simp only [List.getElem?_toArray, List.getElem?_cons_zero, List.getElem?_cons_succ, Sem.run_bind, hu, Result.andThen_ok, hE.sizeOf hz, Sem.run_pure, Builtin.lenOf, hf2, hr]
  rfl

end Go.Vc

namespace Go.Vc

/-! ### numbers as bits -/

theorem ofInt_nat {w : Nat} (a : BitVec w) : BitVec.ofInt w (a.toNat : Int) = a := by
  apply BitVec.eq_of_toNat_eq
  simp

theorem wrap_nat8 (n : Nat) : IntKind.u8.wrap (n : Int) = ((n % 256 : Nat) : Int) := by rw [wrapu8_def]; omega
theorem wrap_nat32 (n : Nat) : IntKind.u32.wrap (n : Int) = ((n % 4294967296 : Nat) : Int) := by rw [wrapu32_def]; omega
theorem wrap_nat64 (n : Nat) : IntKind.u64.wrap (n : Int) = ((n % 18446744073709551616 : Nat) : Int) := by rw [wrapu64_def]; omega
theorem wrap_nat16 (n : Nat) : IntKind.u16.wrap (n : Int) = ((n % 65536 : Nat) : Int) := by
  show (n : Int) % 65536 = _
  omega

theorem wrap_bv8 (a : BitVec 8) : IntKind.u8.wrap (a.toNat : Int) = (a.toNat : Int) := by have := a.isLt; rw [wrap_nat8, Nat.mod_eq_of_lt (by omega)]
theorem wrap_bv16 (a : BitVec 16) : IntKind.u16.wrap (a.toNat : Int) = (a.toNat : Int) := by have := a.isLt; rw [wrap_nat16, Nat.mod_eq_of_lt (by omega)]
theorem wrap_bv32 (a : BitVec 32) : IntKind.u32.wrap (a.toNat : Int) = (a.toNat : Int) := by have := a.isLt; rw [wrap_nat32, Nat.mod_eq_of_lt (by omega)]
theorem wrap_bv64 (a : BitVec 64) : IntKind.u64.wrap (a.toNat : Int) = (a.toNat : Int) := by have := a.isLt; rw [wrap_nat64, Nat.mod_eq_of_lt (by omega)]

theorem conv8 {w : Nat} (a : BitVec w) : IntKind.u8.wrap (a.toNat : Int) = ((a.setWidth 8).toNat : Int) := by rw [wrap_nat8]; simp
theorem conv16 {w : Nat} (a : BitVec w) : IntKind.u16.wrap (a.toNat : Int) = ((a.setWidth 16).toNat : Int) := by rw [wrap_nat16]; simp
theorem conv32 {w : Nat} (a : BitVec w) : IntKind.u32.wrap (a.toNat : Int) = ((a.setWidth 32).toNat : Int) := by rw [wrap_nat32]; simp
theorem conv64 {w : Nat} (a : BitVec w) : IntKind.u64.wrap (a.toNat : Int) = ((a.setWidth 64).toNat : Int) := by rw [wrap_nat64]; simp

theorem bXor8 (a b : BitVec 8) : bXor .u8 a.toNat b.toNat = ((a ^^^ b).toNat : Int) := by show IntKind.u8.wrap ((BitVec.ofInt 8 _ ^^^ BitVec.ofInt 8 _).toNat : Int) = _; rw [ofInt_nat, ofInt_nat, wrap_bv8]
theorem bAnd8 (a b : BitVec 8) : bAnd .u8 a.toNat b.toNat = ((a &&& b).toNat : Int) := by show IntKind.u8.wrap ((BitVec.ofInt 8 _ &&& BitVec.ofInt 8 _).toNat : Int) = _; rw [ofInt_nat, ofInt_nat, wrap_bv8]
theorem bOr8 (a b : BitVec 8) : bOr .u8 a.toNat b.toNat = ((a ||| b).toNat : Int) := by show IntKind.u8.wrap ((BitVec.ofInt 8 _ ||| BitVec.ofInt 8 _).toNat : Int) = _; rw [ofInt_nat, ofInt_nat, wrap_bv8]
theorem bXor16 (a b : BitVec 16) : bXor .u16 a.toNat b.toNat = ((a ^^^ b).toNat : Int) := by show IntKind.u16.wrap ((BitVec.ofInt 16 _ ^^^ BitVec.ofInt 16 _).toNat : Int) = _; rw [ofInt_nat, ofInt_nat, wrap_bv16]
theorem bAnd16 (a b : BitVec 16) : bAnd .u16 a.toNat b.toNat = ((a &&& b).toNat : Int) := by show IntKind.u16.wrap ((BitVec.ofInt 16 _ &&& BitVec.ofInt 16 _).toNat : Int) = _; rw [ofInt_nat, ofInt_nat, wrap_bv16]
theorem bOr16 (a b : BitVec 16) : bOr .u16 a.toNat b.toNat = ((a ||| b).toNat : Int) := by show IntKind.u16.wrap ((BitVec.ofInt 16 _ ||| BitVec.ofInt 16 _).toNat : Int) = _; rw [ofInt_nat, ofInt_nat, wrap_bv16]
theorem bXor32 (a b : BitVec 32) : bXor .u32 a.toNat b.toNat = ((a ^^^ b).toNat : Int) := by show IntKind.u32.wrap ((BitVec.ofInt 32 _ ^^^ BitVec.ofInt 32 _).toNat : Int) = _; rw [ofInt_nat, ofInt_nat, wrap_bv32]
theorem bAnd32 (a b : BitVec 32) : bAnd .u32 a.toNat b.toNat = ((a &&& b).toNat : Int) := by show IntKind.u32.wrap ((BitVec.ofInt 32 _ &&& BitVec.ofInt 32 _).toNat : Int) = _; rw [ofInt_nat, ofInt_nat, wrap_bv32]
theorem bOr32 (a b : BitVec 32) : bOr .u32 a.toNat b.toNat = ((a ||| b).toNat : Int) := by show IntKind.u32.wrap ((BitVec.ofInt 32 _ ||| BitVec.ofInt 32 _).toNat : Int) = _; rw [ofInt_nat, ofInt_nat, wrap_bv32]
theorem bXor64 (a b : BitVec 64) : bXor .u64 a.toNat b.toNat = ((a ^^^ b).toNat : Int) := by show IntKind.u64.wrap ((BitVec.ofInt 64 _ ^^^ BitVec.ofInt 64 _).toNat : Int) = _; rw [ofInt_nat, ofInt_nat, wrap_bv64]
theorem bAnd64 (a b : BitVec 64) : bAnd .u64 a.toNat b.toNat = ((a &&& b).toNat : Int) := by show IntKind.u64.wrap ((BitVec.ofInt 64 _ &&& BitVec.ofInt 64 _).toNat : Int) = _; rw [ofInt_nat, ofInt_nat, wrap_bv64]
theorem bOr64 (a b : BitVec 64) : bOr .u64 a.toNat b.toNat = ((a ||| b).toNat : Int) := by show IntKind.u64.wrap ((BitVec.ofInt 64 _ ||| BitVec.ofInt 64 _).toNat : Int) = _; rw [ofInt_nat, ofInt_nat, wrap_bv64]

theorem fdiv_nat (a n : Nat) : (a : Int).fdiv ((2 : Int) ^ n) = ((a >>> n : Nat) : Int) := by
  rw [show ((2 : Int) ^ n) = (((2 ^ n : Nat)) : Int) by simp, Int.fdiv_eq_ediv_of_nonneg _ (Int.natCast_nonneg _), Nat.shiftRight_eq_div_pow]
  exact (Int.natCast_ediv a (2 ^ n)).symm

theorem bShr_bv {w : Nat} {k : IntKind} (hk : k.bits = w) (a : BitVec w) (n : Nat) : bShr k a.toNat (n : Int) = ((a >>> n).toNat : Int) := by
  show (a.toNat : Int).fdiv (2 ^ (min n k.bits)) = _
  rw [fdiv_nat, hk]
  congr 1
  rw [BitVec.toNat_ushiftRight]
  rcases Nat.le_total n w with h | h
  · rw [Nat.min_eq_left h]
  · rw [Nat.min_eq_right h, Nat.shiftRight_eq_div_pow, Nat.shiftRight_eq_div_pow, Nat.div_eq_of_lt a.isLt, Nat.div_eq_of_lt (Nat.lt_of_lt_of_le a.isLt (Nat.pow_le_pow_right (by omega) h))]

theorem shl_nat (a n : Nat) : (a : Int) * 2 ^ n = ((a <<< n : Nat) : Int) := by
  rw [Nat.shiftLeft_eq]; simp

theorem bShl8 (a : BitVec 8) (n : Nat) : bShl .u8 a.toNat (n : Int) = ((a <<< n).toNat : Int) := by
  show IntKind.u8.wrap ((a.toNat : Int) * 2 ^ (min n 8)) = _
  rw [shl_nat, wrap_nat8, BitVec.toNat_shiftLeft]
  congr 1
  rcases Nat.le_total n 8 with h | h
  · rw [Nat.min_eq_left h]
  · rw [Nat.min_eq_right h, Nat.shiftLeft_eq, Nat.shiftLeft_eq, show n = 8 + (n - 8) by omega, Nat.pow_add, ← Nat.mul_assoc]
    simp only [Nat.mul_mod_left, Nat.mul_assoc]
    rw [Nat.mul_left_comm, Nat.mul_mod_right]
theorem bShl32 (a : BitVec 32) (n : Nat) : bShl .u32 a.toNat (n : Int) = ((a <<< n).toNat : Int) := by
  show IntKind.u32.wrap ((a.toNat : Int) * 2 ^ (min n 32)) = _
  rw [shl_nat, wrap_nat32, BitVec.toNat_shiftLeft]
  congr 1
  rcases Nat.le_total n 32 with h | h
  · rw [Nat.min_eq_left h]
  · rw [Nat.min_eq_right h, Nat.shiftLeft_eq, Nat.shiftLeft_eq, show n = 32 + (n - 32) by omega, Nat.pow_add, ← Nat.mul_assoc]
    simp only [Nat.mul_mod_left, Nat.mul_assoc]
    rw [Nat.mul_left_comm, Nat.mul_mod_right]
theorem bShl64 (a : BitVec 64) (n : Nat) : bShl .u64 a.toNat (n : Int) = ((a <<< n).toNat : Int) := by
  show IntKind.u64.wrap ((a.toNat : Int) * 2 ^ (min n 64)) = _
  rw [shl_nat, wrap_nat64, BitVec.toNat_shiftLeft]
  congr 1
  rcases Nat.le_total n 64 with h | h
  · rw [Nat.min_eq_left h]
  · rw [Nat.min_eq_right h, Nat.shiftLeft_eq, Nat.shiftLeft_eq, show n = 64 + (n - 64) by omega, Nat.pow_add, ← Nat.mul_assoc]
    simp only [Nat.mul_mod_left, Nat.mul_assoc]
    rw [Nat.mul_left_comm, Nat.mul_mod_right]
theorem bShl16 (a : BitVec 16) (n : Nat) : bShl .u16 a.toNat (n : Int) = ((a <<< n).toNat : Int) := by
  show IntKind.u16.wrap ((a.toNat : Int) * 2 ^ (min n 16)) = _
  rw [shl_nat, wrap_nat16, BitVec.toNat_shiftLeft]
  congr 1
  rcases Nat.le_total n 16 with h | h
  · rw [Nat.min_eq_left h]
  · rw [Nat.min_eq_right h, Nat.shiftLeft_eq, Nat.shiftLeft_eq, show n = 16 + (n - 16) by omega, Nat.pow_add, ← Nat.mul_assoc]
    simp only [Nat.mul_mod_left, Nat.mul_assoc]
    rw [Nat.mul_left_comm, Nat.mul_mod_right]

/-! ### one cell at any place of a block known whole -/

theorem LdK.at_ {E : Env} {t b p o : Nat} {h : Heap} {l : List Value} {T : TypeId} {fz : Nat × Nat} {y : Ty} {v : Value} {K : Value → Prop} (hb : h[b]? = some (.cells l.toArray T fz)) (hy : E.ty t = some y) (ha : y.agg = false)
    (ho : p = o) (hv : l[o]? = some v) (k : K v) : LdK E t (.pointer (some ⟨b, p, none⟩)) h K := by
  subst ho
  refine ⟨b, p, _, T, fz, v, rfl, hb, ?_, k⟩
  unfold rdCell
  rw [hy]
  simp only [ha, List.getElem?_toArray]
  exact hv

theorem StK.at_ {E : Env} {t b p o : Nat} {x : Value} {h : Heap} {l : List Value} {T : TypeId} {y : Ty} {K : Heap → Prop} (hb : h[b]? = some (.cells l.toArray T (0, 0))) (hy : E.ty t = some y) (hs : y.size = 1)
    (hx : x.cells = #[x]) (h1 : oneCell x = true) (ho : p = o) (hlt : o < l.length) (k : ∀ h', Upd h b (.cells (l.set o x).toArray T (0, 0)) h' → K h') : StK E t (.pointer (some ⟨b, p, none⟩)) x h K := by
  subst ho
  refine ⟨b, p, _, T, y, rfl, hb, hy, by rw [hx, hs]; rfl, by rw [hs, List.size_toArray]; exact hlt, by rw [hx]; simpa using h1, fun h' hu => k h' ?_⟩
  rw [hx] at hu
  have e : putCells l.toArray p #[x].toList = (l.set p x).toArray := by
    show l.toArray.setIfInBounds p x = _
    simp
  rw [e] at hu
  exact hu

theorem FillK.row {place : Nat → Option (Nat × Nat)} {zc : Array Value} {n : Nat} {ps : List (Nat × Value)} {l : List Value} {K : Array Value → Prop} (h : fillL place ((List.range n).map fun x => zc[x % zc.size]!) ps = some l) (k : K l.toArray) :
    FillK place ((Array.range n).map fun x => zc[x % zc.size]!) ps K := by
  refine FillK.lit (l := l) ?_ k
  rw [← h]
  congr 1
  simp

end Go.Vc

namespace Go.Vc

/-- A slice of bytes that holds a text. -/
structure BytesV (h : Heap) (v : Value) (L : List UInt8) : Prop where
  out : ∃ A c, v = .slice A L.length c ∧ L.length ≤ c ∧ Row h A (L.map byteV) ∧ (A = none → L = [])

theorem BytesV.keep {h h' : Heap} {v : Value} {L : List UInt8} (x : BytesV h v L) (hk : Keep (fun _ => False) h h') : BytesV h' v L := by
  obtain ⟨A, c, hv, hc, hr, h0⟩ := x.out
  exact ⟨A, c, hv, hc, hr.keep hk, h0⟩

theorem BytesV.keepS {S : Nat → Prop} {h h' : Heap} {v : Value} {L : List UInt8} (x : BytesV h v L) (hk : Keep S h h') (hS : ∀ k, blkOf v k → ¬ S k) : BytesV h' v L := by
  obtain ⟨A, c, hv, hc, hr, h0⟩ := x.out
  refine ⟨A, c, hv, hc, hr.keepS hk fun b o e => hS b ?_, h0⟩
  rw [hv, e]; exact rfl

theorem BytesV.none (h : Heap) (c : Nat) : BytesV h (.slice .none 0 c) [] := ⟨.none, c, rfl, Nat.zero_le _, Row.nil _ _, fun _ => rfl⟩

theorem OwnS.own {D : Nat} {h : Heap} {e size n : Nat} {v : Value} {xs : List Value} (o : OwnS D h e size v n xs) {k : Nat} (hk : blkOf v k) : D ≤ k := by
  obtain ⟨_, ⟨c0, rfl, _, _⟩ | ⟨b, cap, r, rfl, hb, _, _⟩⟩ := o
  · exact hk.elim
  · have hk : k = b := hk
    omega

theorem OwnS.keep {S : Nat → Prop} {D : Nat} {h h' : Heap} {e size n : Nat} {v : Value} {xs : List Value} (o : OwnS D h e size v n xs) (hk : Keep S h h') (hS : ∀ k, blkOf v k → ¬ S k) : OwnS D h' e size v n xs := by
  obtain ⟨hn, hc⟩ := o
  refine ⟨hn, ?_⟩
  rcases hc with h1 | ⟨b, cap, r, rfl, hb, hg, hl⟩
  · exact .inl h1
  · exact .inr ⟨b, cap, r, rfl, hb, hk.get hg (hS b rfl), hl⟩

theorem OwnS.mono {D D' : Nat} {h : Heap} {e size n : Nat} {v : Value} {xs : List Value} (o : OwnS D h e size v n xs) (hd : D' ≤ D) : OwnS D' h e size v n xs := by
  obtain ⟨hn, hc⟩ := o
  refine ⟨hn, ?_⟩
  rcases hc with h1 | ⟨b, cap, r, rfl, hb, hg, hl⟩
  · exact .inl h1
  · exact .inr ⟨b, cap, r, rfl, by omega, hg, hl⟩

theorem BytesV.of_own {D : Nat} {h : Heap} {e n : Nat} {v : Value} {L : List UInt8} (o : OwnS D h e 1 v n (L.map byteV)) : BytesV h v L := by
  obtain ⟨hn, hc⟩ := id o
  have hn' : n = L.length := by simpa using hn
  subst hn'
  rcases hc with ⟨c0, rfl, hn0, rfl⟩ | ⟨b, cap, r, rfl, _, hb, hl⟩
  · have : L = [] := List.eq_nil_of_length_eq_zero hn0
    subst this
    exact BytesV.none _ _
  · exact ⟨_, cap, rfl, by simp at hl; omega, o.row, fun x => by cases x⟩

theorem BytesV.at_ {h : Heap} {A : Option Addr} {n c : Nat} {L : List UInt8} (x : BytesV h (.slice A n c) L) {i : Nat} {b : UInt8} (hi : L[i]? = some b) : Elem h A i 1 [byteV b] := by
  obtain ⟨A', c', hv, _, hr, _⟩ := x.out
  injection hv with h1 _ _
  subst h1
  exact hr.at_ (by simp [hi])

theorem BytesV.cut {h : Heap} {A : Option Addr} {n c : Nat} {L : List UInt8} (x : BytesV h (.slice A n c) L) {l hi m k c' : Nat} (h1 : l ≤ hi) (h2 : hi ≤ L.length) (h3 : hi ≤ m) (hk : k = hi - l) (hc' : c' = m - l) :
    BytesV h (.slice (cutA A l m 1) k c') ((L.drop l).take k) := by
  subst hk hc'
  obtain ⟨A', c0, hv, hc, hr, h0⟩ := x.out
  injection hv with e1 e2 e3
  subst e1 e2 e3
  have hlen : ((L.drop l).take (hi - l)).length = hi - l := by simp; omega
  refine ⟨_, m - l, by rw [hlen], by rw [hlen]; omega, ?_, fun e => ?_⟩
  · rcases Nat.eq_or_lt_of_le h1 with e | hlt
    · subst e
      simp
      exact Row.nil _ _
    · unfold cutA
      rw [if_neg (by omega)]
      rcases hr.out with e | ⟨b, o, _, _, _, e, _⟩
      · have : L = [] := by simpa using e
        subst this
        simp at h2
        omega
      · subst e
        rw [List.map_take, List.map_drop]
        exact hr.sub (by simp; omega) (by show o + l * 1 = o + l; omega)
  · have : A = Option.none := by
      unfold cutA at e
      split at e
      · exact e
      · cases A with
        | none => rfl
        | some a => cases e
    rw [h0 this]
    simp

theorem BytesV.some {h : Heap} {A : Option Addr} {n c : Nat} {L : List UInt8} (x : BytesV h (.slice A n c) L) (hl : 0 < L.length) : ∃ b o, A = .some ⟨b, o, Option.none⟩ := by
  obtain ⟨A', c', hv, _, hr, _⟩ := x.out
  injection hv with e1 e2 e3
  subst e1
  rcases hr.out with e | ⟨b, o, _, _, _, e, _⟩
  · have : L = [] := by simpa using e
    subst this
    simp at hl
  · exact ⟨b, o, e⟩

theorem BytesV.toString {E : Env} (hE : E.Ok) {src dst e : Nat} {x y z : Ty} {h : Heap} {v : Value} {L : List UInt8} {K : Value → Prop} (hv : BytesV h v L) (hx : E.ty src = Option.some x) (hxd : x.desc = .slice e) (hy : E.ty dst = Option.some y) (hyd : y.desc = .string)
    (hz : E.ty e = Option.some z) (hzd : z.desc = .int .u8) (k : K (.string ⟨L.toArray⟩)) : RdK E.P (convert src dst v) h K := by
  obtain ⟨A, c, rfl, _, hr, h0⟩ := hv.out
  exact RdK.toString hE hx hxd hy hyd hz hzd hr rfl (fun e => by rw [h0 e]; rfl) k

theorem bytes_loop (bs : ByteArray) : ∀ (k i : Nat) (r : List UInt8), i + k = bs.size → ByteArray.toList.loop bs i r = r.reverse ++ bs.data.toList.drop i
  | 0, i, r, h => by
    unfold ByteArray.toList.loop
    rw [if_neg (by omega), List.drop_eq_nil_of_le (by simp; omega)]
    simp
  | k + 1, i, r, h => by
    unfold ByteArray.toList.loop
    rw [if_pos (by omega), bytes_loop bs k (i + 1) _ (by omega)]
    have hlt : i < bs.data.toList.length := by simp; omega
    rw [List.drop_eq_getElem_cons hlt]
    have hlt' : i < bs.data.size := by simpa using hlt
    simp only [ByteArray.get!, List.reverse_cons, List.append_assoc, List.singleton_append, Array.getElem_toList]
    rw [getElem!_pos bs.data i hlt']

theorem bytes_list (L : List UInt8) : (⟨L.toArray⟩ : ByteArray).toList = L := by
  unfold ByteArray.toList
  rw [bytes_loop _ _ 0 [] (Nat.zero_add _)]
  simp

theorem bytes_beq (L M : List UInt8) : ((⟨L.toArray⟩ : ByteArray).toList == (⟨M.toArray⟩ : ByteArray).toList) = (L == M) := by
  rw [bytes_list, bytes_list]

theorem StrK.lists {L M : List UInt8} {K : Bool → Prop} (k : K (L == M)) : StrK ⟨L.toArray⟩ ⟨M.toArray⟩ K := ⟨by rw [bytes_beq]; exact k⟩

theorem BytesV.len {h : Heap} {A : Option Addr} {n c : Nat} {L : List UInt8} (x : BytesV h (.slice A n c) L) : n = L.length := by
  obtain ⟨A', c', hv, _, _, _⟩ := x.out
  injection hv

theorem SemK.append_bytes {E : Env} (hE : E.Ok) {t e ty : Nat} {y z : Ty} {D : Nat} {v x : Value} {L M : List UInt8} {h : Heap} {K : Value → Heap → Prop}
    (hy : E.ty t = some y) (hd : y.desc = .slice e) (hz : E.ty e = some z) (hzd : z = ⟨.int .u8, 1, 1, false, some (.int .u8 0)⟩)
    (ho : OwnS D h e 1 v L.length (L.map byteV)) (hx : BytesV h x M) (hD : D ≤ h.size) (hb : L.length + M.length ≤ 1000000000)
    (k : ∀ v' h', OwnS D h' e 1 v' (L ++ M).length ((L ++ M).map byteV) → Keep (blkOf v) h h' → (∀ j, blkOf v' j → blkOf v j ∨ h.size ≤ j) → K v' h') :
    SemK E.P (Builtin.append_ #[t, t] ty #[v, x]) h K := by
  subst hzd
  obtain ⟨B, c, rfl, _, hr, h0⟩ := hx.out
  refine OwnS.append (n := L.length) (m := M.length) hE hy hd hz rfl rfl hy (fun k hk => by rw [hd] at hk; cases hk) ho hr (by simp) (fun e => by rw [h0 e]; rfl) (byteV_one M) hD (by show _ * 1 ≤ _; omega) (by decide) (by decide) ?_
  intro v' h' o1 k1 j1
  exact k v' h' (by simpa using o1) k1 j1

theorem freeze_upd (w : World) {b n : Nat} {cs : Array Value} {T : TypeId} (hb : w.heap[b]? = some (.cells cs T (0, 0))) :
    Upd w.heap b (.cells cs T (n, n + 1)) (w.freeze ⟨b, n, none⟩ 1).heap ∧ Same w (w.freeze ⟨b, n, none⟩ 1) := by
  unfold World.freeze
  rw [if_neg (by omega)]
  refine ⟨⟨by simp, ?_, fun j hj => ?_⟩, ⟨rfl, rfl, rfl⟩⟩
  · simp only [Array.getElem?_modify, if_true, hb, Option.map_some]
    rfl
  · simp only [Array.getElem?_modify]
    rw [if_neg (fun e => hj e.symm)]

theorem SemK.convSame {E : Env} (hE : E.Ok) {t e : Nat} {y z : Ty} {b o n c : Nat} {cs : Array Value} {T : TypeId} {h : Heap} {K : Value → Heap → Prop} (hy : E.ty t = some y) (hd : y.desc = .slice e) (hz : E.ty e = some z) (hzd : z.desc = .int .u8)
    (hb : h[b]? = some (.cells cs T (0, 0))) (k : ∀ h', Upd h b (.cells cs T (cs.size, cs.size + 1)) h' → K (.slice (some ⟨b, o, none⟩) n c) h') :
    SemK E.P (convert t t (.slice (some ⟨b, o, none⟩) n c)) h K := by
  refine ⟨fun w hw => ?_⟩
  subst hw
  have h1 := fun w' => hE.underlying hy w'
  have h3 := fun w' => hE.underlying hz w'
  rw [hd] at h1
  rw [hzd] at h3
  have hsh : w.shape? b = some (T, cs.size) := by unfold World.shape?; rw [hb]
  obtain ⟨hu, hsm⟩ := freeze_upd w (n := cs.size) hb
  have hrun : (convert t t (.slice (some ⟨b, o, none⟩) n c)).run E.P w = .ok (.slice (some ⟨b, o, none⟩) n c) (w.freeze ⟨b, cs.size, none⟩ 1) := by
    unfold convert
    simp only [Sem.run_bind, h1, h3, Result.andThen_ok, beq_self_eq_true, markStringish, run_shape, hsh, run_freeze, Sem.run_pure]
  exact ⟨_, _, hrun, hsm, k _ hu⟩

theorem BytesV.lit {h : Heap} {b n c : Nat} {L : List UInt8} {l : List Value} {T : TypeId} {fz : Nat × Nat} (hb : h[b]? = Option.some (.cells l.toArray T fz)) (hl : l = L.map byteV) (hn : n = L.length) (hc : n ≤ c) : BytesV h (.slice (Option.some ⟨b, 0, Option.none⟩) n c) L := by
  subst hl hn
  exact ⟨_, c, rfl, hc, Row.of_cells hb (p := []) (q := []) (by simp) rfl, fun e => by cases e⟩

end Go.Vc

namespace Go.Vc

/-! ### What is known of a heap, all in one: resources, each with blocks of its own -/

structure Res where
  blk : Nat → Prop
  at_ : Heap → Prop
  lt : ∀ {h : Heap}, at_ h → ∀ {k : Nat}, blk k → k < h.size
  keep : ∀ {h h' : Heap}, at_ h → (∀ k, blk k → h'[k]? = h[k]?) → at_ h'

/-- A block that holds an object. -/
def Res.ob (b : Nat) (o : Obj) : Res := ⟨(· = b), fun h => h[b]? = some o, fun x k e => by subst e; exact lt_of_get x, fun x k => (k b rfl).trans x⟩

/-- A slice of a block of one's own. -/
def Res.own (v : Value) (e size n : Nat) (xs : List Value) : Res := ⟨blkOf v, fun h => OwnS 0 h e size v n xs, fun x k e => by
    obtain ⟨_, ⟨c0, rfl, _, _⟩ | ⟨b, cap, r, rfl, _, hg, _⟩⟩ := x
    · exact e.elim
    · have e : k = b := e
      subst e; exact lt_of_get hg, fun x k => by
    obtain ⟨hn, hc⟩ := x
    refine ⟨hn, ?_⟩
    rcases hc with h1 | ⟨b, cap, r, rfl, hb, hg, hl⟩
    · exact .inl h1
    · exact .inr ⟨b, cap, r, rfl, hb, (k b rfl).trans hg, hl⟩⟩

structure Hp (h0 h : Heap) (rs : List Res) : Prop where
  keep : Keep (fun _ => False) h0 h
  each : ∀ r ∈ rs, r.at_ h ∧ ∀ k, r.blk k → h0.size ≤ k
  apart : rs.Pairwise fun p q => ∀ k, p.blk k → ¬ q.blk k

def setN {α : Type} : List α → Nat → α → List α
  | [], _, _ => []
  | _ :: r, 0, y => y :: r
  | x :: r, n + 1, y => x :: setN r n y

def delN {α : Type} : List α → Nat → List α
  | [], _ => []
  | _ :: r, 0 => r
  | x :: r, n + 1 => x :: delN r n

theorem Hp.start (h : Heap) : Hp h h [] := ⟨Keep.refl _ _, by simp, List.Pairwise.nil⟩

theorem nth_mem {α : Type} : ∀ {l : List α} {i : Nat} {x : α}, nth l i = some x → x ∈ l
  | [], _, _, h => by simp [nth] at h
  | y :: r, 0, x, h => by simp [nth] at h; simp [h]
  | y :: r, i + 1, x, h => by simp only [nth] at h; simp [nth_mem h]

theorem Hp.get {h0 h : Heap} {rs : List Res} (H : Hp h0 h rs) (i : Nat) {r : Res} (hn : nth rs i = some r) : r.at_ h := (H.each r (nth_mem hn)).1
theorem Hp.own {h0 h : Heap} {rs : List Res} (H : Hp h0 h rs) (i : Nat) {r : Res} (hn : nth rs i = some r) : ∀ k, r.blk k → h0.size ≤ k := (H.each r (nth_mem hn)).2

theorem mem_setN {α : Type} : ∀ {l : List α} {i : Nat} {x y : α}, y ∈ setN l i x → y = x ∨ y ∈ l
  | [], _, _, _, h => by simp [setN] at h
  | z :: r, 0, x, y, h => by simp only [setN, List.mem_cons] at h ⊢; rcases h with h | h <;> simp [h]
  | z :: r, i + 1, x, y, h => by
    simp only [setN, List.mem_cons] at h ⊢
    rcases h with h | h
    · simp [h]
    · rcases mem_setN h with h | h <;> simp [h]

theorem Hp.and {h0 h h' : Heap} {rs : List Res} (H : Hp h0 h rs) (k : Keep (fun _ => False) h h') : Hp h0 h' rs :=
  ⟨H.keep.and k, fun r hr => ⟨r.keep (H.each r hr).1 fun j hj => k.old j (r.lt (H.each r hr).1 hj) (fun f => f), (H.each r hr).2⟩, H.apart⟩

theorem pairwise_setN {h : Heap} {r r' : Res} : ∀ {rs : List Res} {i : Nat}, nth rs i = some r → rs.Pairwise (fun p q => ∀ k, p.blk k → ¬ q.blk k) → (∀ q ∈ rs, q.at_ h) → (∀ k, r'.blk k → r.blk k ∨ h.size ≤ k) →
    (setN rs i r').Pairwise (fun p q => ∀ k, p.blk k → ¬ q.blk k)
  | [], _, hn, _, _, _ => by simp [nth] at hn
  | x :: rs, 0, hn, hp, ha, hb => by
    simp only [nth, Option.some.injEq] at hn
    subst hn
    simp only [setN]
    rw [List.pairwise_cons] at hp ⊢
    refine ⟨fun q hq k hk hqk => ?_, hp.2⟩
    rcases hb k hk with h1 | h1
    · exact hp.1 q hq k h1 hqk
    · have := q.lt (ha q (by simp [hq])) hqk
      omega
  | x :: rs, i + 1, hn, hp, ha, hb => by
    simp only [nth] at hn
    simp only [setN]
    rw [List.pairwise_cons] at hp ⊢
    refine ⟨fun q hq k hk hqk => ?_, pairwise_setN hn hp.2 (fun q hq => ha q (by simp [hq])) hb⟩
    rcases mem_setN hq with rfl | hq
    · rcases hb k hqk with h1 | h1
      · exact hp.1 r (nth_mem hn) k hk h1
      · have := x.lt (ha x (by simp)) hk
        omega
    · exact hp.1 q hq k hk hqk

theorem setN_other {r r' : Res} : ∀ {rs : List Res} {i : Nat}, nth rs i = some r → rs.Pairwise (fun p q => ∀ k, p.blk k → ¬ q.blk k) → ∀ q ∈ setN rs i r', q = r' ∨ (q ∈ rs ∧ ∀ k, q.blk k → ¬ r.blk k)
  | [], _, hn, _, _, hq => by simp [nth] at hn
  | x :: rs, 0, hn, hp, q, hq => by
    simp only [nth, Option.some.injEq] at hn
    subst hn
    simp only [setN, List.mem_cons] at hq
    rw [List.pairwise_cons] at hp
    rcases hq with rfl | hq
    · exact .inl rfl
    · exact .inr ⟨by simp [hq], fun k hk hx => hp.1 q hq k hx hk⟩
  | x :: rs, i + 1, hn, hp, q, hq => by
    simp only [nth] at hn
    simp only [setN, List.mem_cons] at hq
    rw [List.pairwise_cons] at hp
    rcases hq with rfl | hq
    · exact .inr ⟨by simp, fun k hk hx => hp.1 r (nth_mem hn) k hk hx⟩
    · rcases setN_other hn hp.2 q hq with h | ⟨h1, h2⟩
      · exact .inl h
      · exact .inr ⟨by simp [h1], h2⟩

/-- One resource has changed, and nothing else. -/
theorem Hp.change {h0 h h' : Heap} {rs : List Res} (H : Hp h0 h rs) (i : Nat) {r r' : Res} (hn : nth rs i = some r) (hk : Keep r.blk h h') (ha : r'.at_ h') (hb : ∀ k, r'.blk k → r.blk k ∨ h.size ≤ k) :
    Hp h0 h' (setN rs i r') := by
  have hown := H.own i hn
  refine ⟨H.keep.trans hk fun k hk0 hr => ?_, fun q hq => ?_, pairwise_setN hn H.apart (fun q hq => (H.each q hq).1) hb⟩
  · have := hown k hr
    omega
  · rcases setN_other hn H.apart q hq with rfl | ⟨h1, h2⟩
    · refine ⟨ha, fun k hk1 => ?_⟩
      rcases hb k hk1 with h3 | h3
      · exact hown k h3
      · have := H.keep.size
        omega
    · obtain ⟨h3, h4⟩ := H.each q h1
      exact ⟨q.keep h3 fun k hk1 => hk.old k (q.lt h3 hk1) (h2 k hk1), h4⟩

/-- A resource more. -/
theorem Hp.more {h0 h h' : Heap} {rs : List Res} (H : Hp h0 h rs) {r : Res} (k : Keep (fun _ => False) h h') (ha : r.at_ h') (hb : ∀ k, r.blk k → h.size ≤ k) : Hp h0 h' (r :: rs) := by
  have H1 := H.and k
  refine ⟨H1.keep, fun q hq => ?_, List.pairwise_cons.2 ⟨fun q hq j hj hqj => ?_, H1.apart⟩⟩
  · rcases List.mem_cons.1 hq with rfl | hq
    · exact ⟨ha, fun j hj => by have := hb j hj; have := H.keep.size; omega⟩
    · exact H1.each q hq
  · have := hb j hj
    have := q.lt (H.each q hq).1 hqj
    omega

theorem Hp.new {h0 h h' : Heap} {rs : List Res} (H : Hp h0 h rs) {o : Obj} {b : Nat} (N : New h o b h') : Hp h0 h' (Res.ob b o :: rs) :=
  H.more N.keep N.get fun k e => by have e : k = b := e; have := N.at_; omega

theorem mem_delN {α : Type} : ∀ {l : List α} {i : Nat} {y : α}, y ∈ delN l i → y ∈ l
  | [], _, _, h => by simp [delN] at h
  | z :: r, 0, y, h => by simp only [delN] at h; simp [h]
  | z :: r, i + 1, y, h => by
    simp only [delN, List.mem_cons] at h ⊢
    rcases h with h | h
    · simp [h]
    · simp [mem_delN h]

theorem pairwise_delN {α : Type} {R : α → α → Prop} : ∀ {l : List α} {i : Nat}, l.Pairwise R → (delN l i).Pairwise R
  | [], _, _ => List.Pairwise.nil
  | x :: r, 0, h => (List.pairwise_cons.1 h).2
  | x :: r, i + 1, h => by
    rw [List.pairwise_cons] at h
    exact List.pairwise_cons.2 ⟨fun q hq => h.1 q (mem_delN hq), pairwise_delN h.2⟩

theorem Hp.drop {h0 h : Heap} {rs : List Res} (H : Hp h0 h rs) (i : Nat) : Hp h0 h (delN rs i) := ⟨H.keep, fun q hq => H.each q (mem_delN hq), pairwise_delN H.apart⟩

theorem Hp.sub {h0 h : Heap} {rs ss : List Res} (H : Hp h0 h rs) (hs : ∃ ts, (ss ++ ts).Perm rs) : Hp h0 h ss := by
  obtain ⟨ts, hp⟩ := hs
  have ha : (ss ++ ts).Pairwise (fun p q => ∀ k, p.blk k → ¬ q.blk k) := (hp.pairwise_iff (fun h k hk hx => h k hx hk)).2 H.apart
  exact ⟨H.keep, fun q hq => H.each q (hp.mem_iff.1 (by simp [hq])), (List.pairwise_append.1 ha).1⟩

theorem nth_perm {α : Type} : ∀ {l : List α} {i : Nat} {x : α}, nth l i = some x → (x :: delN l i).Perm l
  | [], _, _, h => by simp [nth] at h
  | y :: r, 0, x, h => by simp only [nth, Option.some.injEq] at h; subst h; exact List.Perm.refl _
  | y :: r, i + 1, x, h => by
    simp only [nth] at h
    exact (List.Perm.swap y x _).trans ((nth_perm h).cons y)

/-- A resource goes first. -/
theorem Hp.pick {h0 h : Heap} {rs : List Res} (H : Hp h0 h rs) (i : Nat) {r : Res} (hn : nth rs i = some r) : Hp h0 h (r :: delN rs i) :=
  H.sub ⟨[], by rw [List.append_nil]; exact nth_perm hn⟩

/-! steps -/

theorem Hp.ld {E : Env} {t b o : Nat} {h0 h : Heap} {rs : List Res} {l : List Value} {T : TypeId} {z : Nat × Nat} {u : Value} {K : Value → Prop} (H : Hp h0 h rs) (i : Nat) (hn : nth rs i = some (Res.ob b (.cells l.toArray T z)))
    (hr : rdLit E t l o = some u) (k : K u) : LdK E t (.pointer (some ⟨b, o, none⟩)) h K := LdK.lit (H.get i hn) hr k

theorem Hp.put {h0 h h' : Heap} {rs : List Res} (H : Hp h0 h rs) (i : Nat) {b : Nat} {o o' : Obj} (hn : nth rs i = some (Res.ob b o)) (hu : Upd h b o' h') : Hp h0 h' (setN rs i (Res.ob b o')) :=
  H.change i hn hu.keep hu.get fun k e => .inl e

theorem Hp.st {E : Env} {t b o : Nat} {x : Value} {h0 h : Heap} {rs : List Res} {l l' : List Value} {T : TypeId} {y : Ty} {K : Heap → Prop} (H : Hp h0 h rs) (i : Nat) (hn : nth rs i = some (Res.ob b (.cells l.toArray T (0, 0)))) (hy : E.ty t = some y)
    (hs : Nat.beq x.cells.size y.size = true) (hnz : Nat.blt 0 y.size = true) (hp : putL l o x.cells.toList = some l') (k : ∀ h', Hp h0 h' (setN rs i (Res.ob b (.cells l'.toArray T (0, 0)))) → K h') :
    StK E t (.pointer (some ⟨b, o, none⟩)) x h K := StK.lit (H.get i hn) hy hs hnz hp fun h' hu => k h' (H.put i hn hu)

theorem Hp.ldAt {E : Env} {t b p o : Nat} {h0 h : Heap} {rs : List Res} {l : List Value} {T : TypeId} {z : Nat × Nat} {y : Ty} {v : Value} {K : Value → Prop} (H : Hp h0 h rs) (i : Nat) (hn : nth rs i = some (Res.ob b (.cells l.toArray T z)))
    (hy : E.ty t = some y) (ha : y.agg = false) (ho : p = o) (hv : l[o]? = some v) (k : K v) : LdK E t (.pointer (some ⟨b, p, none⟩)) h K := LdK.at_ (H.get i hn) hy ha ho hv k

theorem Hp.stAt {E : Env} {t b p o : Nat} {x : Value} {h0 h : Heap} {rs : List Res} {l : List Value} {T : TypeId} {y : Ty} {K : Heap → Prop} (H : Hp h0 h rs) (i : Nat) (hn : nth rs i = some (Res.ob b (.cells l.toArray T (0, 0)))) (hy : E.ty t = some y)
    (hs : y.size = 1) (hx : x.cells = #[x]) (h1 : oneCell x = true) (ho : p = o) (hlt : o < l.length) (k : ∀ h', Hp h0 h' (setN rs i (Res.ob b (.cells (l.set o x).toArray T (0, 0)))) → K h') :
    StK E t (.pointer (some ⟨b, p, none⟩)) x h K := StK.at_ (H.get i hn) hy hs hx h1 ho hlt fun h' hu => k h' (H.put i hn hu)

theorem OwnS.zero {D : Nat} {h : Heap} {e size n : Nat} {v : Value} {xs : List Value} (o : OwnS D h e size v n xs) : OwnS 0 h e size v n xs := o.mono (Nat.zero_le _)

/-- A call that gives a slice of a block of its own. -/
theorem Hp.made {h0 h h' : Heap} {rs : List Res} (H : Hp h0 h rs) {v : Value} {e size n : Nat} {xs : List Value} (o : OwnS h.size h' e size v n xs) (k : Keep (fun _ => False) h h') : Hp h0 h' (Res.own v e size n xs :: rs) :=
  H.more k o.zero fun j hj => o.own hj

end Go.Vc

namespace Go.Vc

/-! ### numbers as natural numbers -/

theorem bAnd_u64 {a b : Nat} (ha : a < 18446744073709551616) (hb : b < 18446744073709551616) : bAnd .u64 (a : Int) (b : Int) = ((a &&& b : Nat) : Int) := by
  have := bAnd64 (BitVec.ofNat 64 a) (BitVec.ofNat 64 b)
  simpa [Nat.mod_eq_of_lt ha, Nat.mod_eq_of_lt hb] using this
theorem bOr_u64 {a b : Nat} (ha : a < 18446744073709551616) (hb : b < 18446744073709551616) : bOr .u64 (a : Int) (b : Int) = ((a ||| b : Nat) : Int) := by
  have := bOr64 (BitVec.ofNat 64 a) (BitVec.ofNat 64 b)
  simpa [Nat.mod_eq_of_lt ha, Nat.mod_eq_of_lt hb] using this
theorem bAnd_u8 {a b : Nat} (ha : a < 256) (hb : b < 256) : bAnd .u8 (a : Int) (b : Int) = ((a &&& b : Nat) : Int) := by
  have := bAnd8 (BitVec.ofNat 8 a) (BitVec.ofNat 8 b)
  simpa [Nat.mod_eq_of_lt ha, Nat.mod_eq_of_lt hb] using this
theorem bXor_u8 {a b : Nat} (ha : a < 256) (hb : b < 256) : bXor .u8 (a : Int) (b : Int) = ((a ^^^ b : Nat) : Int) := by
  have := bXor8 (BitVec.ofNat 8 a) (BitVec.ofNat 8 b)
  simpa [Nat.mod_eq_of_lt ha, Nat.mod_eq_of_lt hb] using this
theorem bAnd_u32 {a b : Nat} (ha : a < 4294967296) (hb : b < 4294967296) : bAnd .u32 (a : Int) (b : Int) = ((a &&& b : Nat) : Int) := by
  have := bAnd32 (BitVec.ofNat 32 a) (BitVec.ofNat 32 b)
  simpa [Nat.mod_eq_of_lt ha, Nat.mod_eq_of_lt hb] using this

theorem bAnd_i64 {a b : Nat} (ha : a < 9223372036854775808) (hb : b < 9223372036854775808) : bAnd .i64 (a : Int) (b : Int) = ((a &&& b : Nat) : Int) := by
  show IntKind.i64.wrap ((BitVec.ofInt 64 (a : Int) &&& BitVec.ofInt 64 (b : Int)).toNat : Int) = _
  rw [BitVec.ofInt_natCast, BitVec.ofInt_natCast, BitVec.toNat_and, BitVec.toNat_ofNat, BitVec.toNat_ofNat, Nat.mod_eq_of_lt (by omega), Nat.mod_eq_of_lt (by omega)]
  have : a &&& b ≤ a := Nat.and_le_left
  exact wrap64_id (by omega) (by omega)

theorem shr_nat {k : IntKind} {a : Nat} (ha : a < 2 ^ k.bits) (n : Nat) : bShr k (a : Int) (n : Int) = ((a >>> n : Nat) : Int) := by
  have := bShr_bv (k := k) rfl (BitVec.ofNat k.bits a) n
  rw [BitVec.toNat_ushiftRight, BitVec.toNat_ofNat, Nat.mod_eq_of_lt ha] at this
  exact this
theorem bShr_u64 {a : Nat} (ha : a < 18446744073709551616) (n : Nat) : bShr .u64 (a : Int) (n : Int) = ((a / 2 ^ n : Nat) : Int) := by
  rw [shr_nat (k := .u64) ha, Nat.shiftRight_eq_div_pow]
theorem bShr_u8 {a : Nat} (ha : a < 256) (n : Nat) : bShr .u8 (a : Int) (n : Int) = ((a / 2 ^ n : Nat) : Int) := by
  rw [shr_nat (k := .u8) ha, Nat.shiftRight_eq_div_pow]
theorem bShr_u32 {a : Nat} (ha : a < 4294967296) (n : Nat) : bShr .u32 (a : Int) (n : Int) = ((a / 2 ^ n : Nat) : Int) := by
  rw [shr_nat (k := .u32) ha, Nat.shiftRight_eq_div_pow]
theorem bShr_i64 {a : Nat} (ha : a < 9223372036854775808) (n : Nat) : bShr .i64 (a : Int) (n : Int) = ((a / 2 ^ n : Nat) : Int) := by
  rw [shr_nat (k := .i64) (by show a < 2 ^ 64; omega), Nat.shiftRight_eq_div_pow]

theorem bShl_u64 {a : Nat} (ha : a < 18446744073709551616) (n : Nat) : bShl .u64 (a : Int) (n : Int) = ((a * 2 ^ n % 18446744073709551616 : Nat) : Int) := by
  have := bShl64 (BitVec.ofNat 64 a) n
  rw [BitVec.toNat_shiftLeft, BitVec.toNat_ofNat, Nat.mod_eq_of_lt ha, Nat.shiftLeft_eq] at this
  exact this
theorem bShl_u8 {a : Nat} (ha : a < 256) (n : Nat) : bShl .u8 (a : Int) (n : Int) = ((a * 2 ^ n % 256 : Nat) : Int) := by
  have := bShl8 (BitVec.ofNat 8 a) n
  rw [BitVec.toNat_shiftLeft, BitVec.toNat_ofNat, Nat.mod_eq_of_lt ha, Nat.shiftLeft_eq] at this
  exact this
theorem bShl_i64 {a n : Nat} (hn : n ≤ 64) (h : a * 2 ^ n < 9223372036854775808) : bShl .i64 (a : Int) (n : Int) = ((a * 2 ^ n : Nat) : Int) := by
  show IntKind.i64.wrap ((a : Int) * 2 ^ (min n 64)) = _
  rw [Nat.min_eq_left hn, show ((2 : Int) ^ n) = ((2 ^ n : Nat) : Int) by simp, ← Int.natCast_mul]
  exact wrap64_id (by omega) (by omega)

theorem wrap_u64_nat {a : Nat} (h : a < 18446744073709551616) : IntKind.u64.wrap (a : Int) = (a : Int) := by rw [wrap_nat64, Nat.mod_eq_of_lt h]
theorem wrap_u8_nat (a : Nat) : IntKind.u8.wrap (a : Int) = ((a % 256 : Nat) : Int) := wrap_nat8 a
theorem wrap_i64_nat {a : Nat} (h : a < 9223372036854775808) : IntKind.i64.wrap (a : Int) = (a : Int) := wrap64_id (by omega) (by omega)

theorem and_mask (x n : Nat) : x &&& (2 ^ n - 1) = x % 2 ^ n := Nat.and_two_pow_sub_one_eq_mod x n

theorem or_low {a x n : Nat} (h : x < 2 ^ n) : a * 2 ^ n ||| x = a * 2 ^ n + x := by
  have := Nat.shiftLeft_add_eq_or_of_lt h a
  rw [Nat.shiftLeft_eq] at this
  exact this.symm

/-- A number out of bytes, the highest first. -/
def beNum (L : List UInt8) : Nat := L.foldl (fun a x => a * 256 + x.toNat) 0

theorem beNum_fold (L : List UInt8) : ∀ a : Nat, L.foldl (fun a x => a * 256 + x.toNat) a = a * 256 ^ L.length + beNum L := by
  induction L with
  | nil => intro a; simp [beNum]
  | cons x L ih =>
    intro a
    simp only [List.foldl_cons, List.length_cons, beNum]
    rw [ih, ih (0 * 256 + x.toNat), Nat.pow_succ, Nat.add_mul, Nat.zero_mul, Nat.zero_add, Nat.mul_comm (256 ^ L.length) 256, ← Nat.mul_assoc]
    omega

theorem beNum_snoc (L : List UInt8) (x : UInt8) : beNum (L ++ [x]) = beNum L * 256 + x.toNat := by simp [beNum]
theorem beNum_append (L M : List UInt8) : beNum (L ++ M) = beNum L * 256 ^ M.length + beNum M := by
  unfold beNum
  rw [List.foldl_append, beNum_fold]; rfl
theorem beNum_lt (L : List UInt8) : beNum L < 256 ^ L.length := by
  have : ∀ n (L : List UInt8), L.length = n → beNum L < 256 ^ n := by
    intro n
    induction n with
    | zero => intro L h; rw [List.eq_nil_of_length_eq_zero h]; decide
    | succ n ih =>
      intro L h
      have hne : L ≠ [] := by intro e; subst e; simp at h
      rw [← List.dropLast_concat_getLast hne, beNum_snoc]
      have h1 := ih L.dropLast (by simp [h])
      have h2 := (L.getLast hne).toNat_lt
      rw [Nat.pow_succ]
      omega
  exact this _ L rfl

/-- So many bytes of a number, the highest first. -/
def beBytes (n : Nat) : Nat → List UInt8
  | 0 => []
  | k + 1 => UInt8.ofNat (n / 256 ^ k % 256) :: beBytes n k

theorem beBytes_length (n : Nat) : ∀ k, (beBytes n k).length = k
  | 0 => rfl
  | k + 1 => by simp [beBytes, beBytes_length n k]

theorem beNum_beBytes (n : Nat) : ∀ k, beNum (beBytes n k) = n % 256 ^ k
  | 0 => by simp [beBytes, beNum, Nat.mod_one]
  | k + 1 => by
    have ih := beNum_beBytes n k
    show beNum (_ :: beBytes n k) = _
    rw [show (UInt8.ofNat (n / 256 ^ k % 256) :: beBytes n k) = [UInt8.ofNat (n / 256 ^ k % 256)] ++ beBytes n k from rfl, beNum_append, beBytes_length, ih]
    have e : beNum [UInt8.ofNat (n / 256 ^ k % 256)] = n / 256 ^ k % 256 := by simp [beNum]
    rw [e, Nat.pow_succ, Nat.mod_mul]
    rw [Nat.mul_comm]; omega

theorem beBytes_at (n : Nat) : ∀ (k i : Nat), i < k → (beBytes n k)[i]? = some (UInt8.ofNat (n / 256 ^ (k - 1 - i) % 256))
  | 0, _, h => by omega
  | k + 1, 0, _ => by simp [beBytes]
  | k + 1, i + 1, h => by
    show (beBytes n k)[i]? = _
    rw [beBytes_at n k i (by omega)]
    rw [show k + 1 - 1 - (i + 1) = k - 1 - i by omega]

end Go.Vc

namespace Go.Vc

/-! ### bytes, over resources -/

def u8T : Ty := ⟨.int .u8, 1, 1, false, some (.int .u8 0)⟩

theorem bytes_ld {E : Env} {t p b o n c : Nat} {h : Heap} {L : List UInt8} {i : Nat} {v : UInt8} {K : Value → Prop} (x : BytesV h (.slice (some ⟨b, o, none⟩) n c) L) (hy : E.ty t = some u8T) (hi : L[i]? = some v) (hp : p = o + i)
    (k : K (.int .u8 v.toNat)) : LdK E t (.pointer (some ⟨b, p, none⟩)) h K :=
  LdK.elem (x.at_ hi) (y := u8T) hy hp (.inr ⟨_, rfl⟩) k

theorem fill_set {α : Type} {X : List α} {z x : α} {i n : Nat} (hn : X.length = n) (hi : X[i]? = some x) : (X.take i ++ List.replicate (n - i) z).set i x = X.take (i + 1) ++ List.replicate (n - (i + 1)) z := by
  have hlt : i < X.length := by
    rcases Nat.lt_or_ge i X.length with h | h
    · exact h
    · rw [List.getElem?_eq_none h] at hi; cases hi
  rw [List.set_append_right _ _ (by simp; omega)]
  have e : n - i = (n - (i + 1)) + 1 := by omega
  have e2 : i - (X.take i).length = 0 := by simp; omega
  rw [e2, e, List.replicate_succ, List.set_cons_zero, List.take_add_one, hi, List.append_assoc]
  rfl

theorem fill_end {α : Type} {X : List α} {z : α} {n : Nat} (hn : X.length = n) : X.take n ++ List.replicate (n - n) z = X := by
  rw [List.take_of_length_le (by omega), Nat.sub_self]; simp

/-- Bytes of a block of one's own. -/
theorem Hp.bytes {h0 h : Heap} {rs : List Res} (H : Hp h0 h rs) (i : Nat) {b n c : Nat} {T : TypeId} {z : Nat × Nat} {l : List Value} {L : List UInt8} (hn : nth rs i = some (Res.ob b (.cells l.toArray T z))) (hl : l = L.map byteV) (hlen : n = L.length) (hc : n ≤ c) :
    BytesV h (.slice (some ⟨b, 0, none⟩) n c) L := BytesV.lit (H.get i hn) hl hlen hc

/-- make. -/
theorem Hp.make {E : Env} (hE : E.Ok) {t e : Nat} {y z : Ty} {zv : Value} {k1 k2 : IntKind} {l c : Int} {n m : Nat} {h0 h : Heap} {rs : List Res} {K : Value → Heap → Prop} (H : Hp h0 h rs) (hy : E.ty t = some y) (hd : y.desc = .slice e) (hz : E.ty e = some z) (hzv : z.zero = some zv)
    (hzc : zv.cells = #[zv]) (hs : z.size = 1) (hl : l = (n : Nat)) (hm : c = (m : Nat)) (hlc : n ≤ m) (hc : m ≤ 1000000000) (hb : Nat.ble z.bytes 1000 = true)
    (k : ∀ b h', Hp h0 h' (Res.ob b (.cells (List.replicate m zv).toArray e (0, 0)) :: rs) → K (.slice (some ⟨b, 0, none⟩) n m) h') : SemK E.P (Instr.makeSlice t (.int k1 l) (.int k2 c)) h K := by
  subst hl hm
  refine SemK.make1 hE hy hd hz hzv hzc hs (by omega) (by omega) (by omega) (Nat.le_of_ble_eq_true hb) fun b h' N => ?_
  exact k b h' (H.new N)

/-- append of bytes to a slice of one's own. -/
theorem Hp.appendB {E : Env} (hE : E.Ok) {t e ty : Nat} {y : Ty} {h0 h : Heap} {rs : List Res} {v x : Value} {n : Nat} {L M : List UInt8} {K : Value → Heap → Prop} (H : Hp h0 h rs) (i : Nat) (hn : nth rs i = some (Res.own v e 1 n (L.map byteV)))
    (hx : BytesV h x M) (hy : E.ty t = some y) (hd : y.desc = .slice e) (hz : E.ty e = some u8T) (hb : L.length + M.length ≤ 1000000000)
    (k : ∀ v' h', Hp h0 h' (setN rs i (Res.own v' e 1 (L ++ M).length ((L ++ M).map byteV))) → K v' h') : SemK E.P (Builtin.append_ #[t, t] ty #[v, x]) h K := by
  have o : OwnS 0 h e 1 v n (L.map byteV) := H.get i hn
  have hnl : n = L.length := by have := o.1; simpa using this
  subst hnl
  refine SemK.append_bytes hE hy hd hz rfl o hx (Nat.zero_le _) hb fun v' h' o' kk j => ?_
  exact k v' h' (H.change i hn kk o' j)

/-- append of anything to a slice of one's own. -/
theorem Hp.append {E : Env} (hE : E.Ok) {t tx e ty : Nat} {y z x0 : Ty} {zv : Value} {B : Option Addr} {h0 h : Heap} {rs : List Res} {n m c : Nat} {v : Value} {xs ys : List Value} {K : Value → Heap → Prop} (H : Hp h0 h rs) (i : Nat) (hn : nth rs i = some (Res.own v e z.size n xs))
    (hB : Row h B ys) (hys : m * z.size = ys.length) (hB0 : B = none → m = 0) (h1 : ys.all oneCell = true) (hy : E.ty t = some y) (hd : y.desc = .slice e) (hz : E.ty e = some z) (hzv : z.zero = some zv) (hzs : zv.cells.size = z.size) (hx0 : E.ty tx = some x0) (hdx : ∀ k, x0.desc ≠ .int k)
    (hbytes : (n + m) * z.bytes ≤ 140737488355328) (hb0 : 0 < z.bytes) (hs0 : 0 < z.size)
    (k : ∀ v' h', Hp h0 h' (setN rs i (Res.own v' e z.size (n + m) (xs ++ ys))) → K v' h') : SemK E.P (Builtin.append_ #[t, tx] ty #[v, .slice B m c]) h K :=
  OwnS.append hE hy hd hz hzv hzs hx0 hdx (H.get i hn) hB hys hB0 h1 (Nat.zero_le _) hbytes hb0 hs0 fun v' h' o' kk j => k v' h' (H.change i hn kk o' j)

theorem Hp.bytesOwn {h0 h : Heap} {rs : List Res} (H : Hp h0 h rs) (i : Nat) {v : Value} {e n : Nat} {L : List UInt8} (hn : nth rs i = some (Res.own v e 1 n (L.map byteV))) : BytesV h v L := BytesV.of_own (H.get i hn)

/-- A block whole, as a slice of one's own. -/
theorem Hp.slice {h0 h : Heap} {rs : List Res} (H : Hp h0 h rs) (i : Nat) {b e size n c : Nat} {l xs : List Value} (hn : nth rs i = some (Res.ob b (.cells l.toArray e (0, 0)))) (hx : n * size = xs.length) (hp : l.take xs.length = xs) (hl : l.length = c * size) :
    Hp h0 h (setN rs i (Res.own (.slice (some ⟨b, 0, none⟩) n c) e size n xs)) := by
  have hg : h[b]? = some (.cells l.toArray e (0, 0)) := H.get i hn
  have e1 : l = xs ++ l.drop xs.length := by conv => lhs; rw [← List.take_append_drop xs.length l, hp]
  refine H.change i hn (Keep.refl _ _) ⟨hx, .inr ⟨b, c, l.drop xs.length, rfl, Nat.zero_le _, by rw [← e1]; exact hg, by rw [← e1]; exact hl⟩⟩ fun k hk => .inl ?_
  exact hk

/-- nil, as a slice of one's own. -/
theorem Hp.nil {h0 h : Heap} {rs : List Res} (H : Hp h0 h rs) (e size : Nat) : Hp h0 h (Res.own (.slice none 0 0) e size 0 [] :: rs) :=
  H.more (Keep.refl _ _) ⟨by simp, .inl ⟨0, rfl, rfl, rfl⟩⟩ fun k hk => hk.elim

theorem Hp.own_out {h0 h : Heap} {rs : List Res} (H : Hp h0 h rs) (i : Nat) {v : Value} {e size n : Nat} {xs : List Value} (hn : nth rs i = some (Res.own v e size n xs)) : OwnS h0.size h e size v n xs := by
  have o : OwnS 0 h e size v n xs := H.get i hn
  have hb := H.own i hn
  obtain ⟨h1, h2⟩ := o
  refine ⟨h1, ?_⟩
  rcases h2 with h2 | ⟨b, cap, r, rfl, _, hg, hl⟩
  · exact .inl h2
  · exact .inr ⟨b, cap, r, rfl, hb b rfl, hg, hl⟩

theorem list_at {α : Type} {L : List α} {i : Nat} (h : i < L.length) : ∃ x, L[i]? = some x := ⟨_, List.getElem?_eq_getElem h⟩

theorem Hp.whole {h0 h : Heap} {rs : List Res} (H : Hp h0 h rs) (i : Nat) {b e size n : Nat} {xs : List Value} (hn : nth rs i = some (Res.ob b (.cells xs.toArray e (0, 0)))) (hx : n * size = xs.length) :
    Hp h0 h (setN rs i (Res.own (.slice (some ⟨b, 0, none⟩) n n) e size n xs)) := H.slice i hn hx (by simp) hx.symm

theorem cutA_some (b o l m size : Nat) : cutA (some ⟨b, o, none⟩) l m size = some ⟨b, if m = l then o else o + l * size, none⟩ := by
  unfold cutA
  split <;> simp [addA]

theorem fill_rev {α : Type} {X : List α} {z x : α} {k i : Nat} (hl : X.length = k) (h : i < k) (hx : X[k - 1 - i]? = some x) : (List.replicate (k - i) z ++ X.drop (k - i)).set (k - 1 - i) x = List.replicate (k - (i + 1)) z ++ X.drop (k - (i + 1)) := by
  rw [List.set_append_left _ _ (by simp; omega)]
  have e : k - i = (k - (i + 1)) + 1 := by omega
  have hlt : k - (i + 1) < X.length := by omega
  rw [List.drop_eq_getElem_cons hlt, ← e]
  rw [show k - 1 - i = k - (i + 1) by omega] at hx ⊢
  rw [List.getElem?_eq_getElem hlt] at hx
  injection hx with hx
  rw [hx, e, List.replicate_succ', List.set_append_right _ _ (by simp)]
  simp

theorem setN_perm {α : Type} : ∀ {l : List α} {i : Nat} {x y : α}, nth l i = some x → (setN l i y).Perm (y :: delN l i)
  | [], _, _, _, h => by simp [nth] at h
  | z :: r, 0, x, y, _ => List.Perm.refl _
  | z :: r, i + 1, x, y, h => by
    have h' : nth r i = some x := h
    exact ((setN_perm (y := y) h').cons z).trans (List.Perm.swap y z _)

theorem Hp.unpick {h0 h : Heap} {rs : List Res} {i : Nat} {r r' : Res} (hn : nth rs i = some r) (H : Hp h0 h (r' :: delN rs i)) : Hp h0 h (setN rs i r') :=
  H.sub ⟨[], by rw [List.append_nil]; exact setN_perm hn⟩

/-- The same, with something more in front. -/
theorem Hp.unpick1 {h0 h : Heap} {rs : List Res} {i : Nat} {r r' q : Res} (hn : nth rs i = some r) (H : Hp h0 h (q :: r' :: delN rs i)) : Hp h0 h (q :: setN rs i r') :=
  H.sub ⟨[], by rw [List.append_nil]; exact (setN_perm hn).cons q⟩

theorem flat_at {α β : Type} {f : α → List β} {n : Nat} (hf : ∀ x, (f x).length = n) : ∀ {ps : List α} {i : Nat} {p : α}, ps[i]? = some p → ((ps.flatMap f).drop (i * n)).take n = f p
  | [], _, _, h => by simp at h
  | x :: r, 0, p, h => by
    simp only [List.getElem?_cons_zero, Option.some.injEq] at h
    subst h
    rw [Nat.zero_mul, List.drop_zero, List.flatMap_cons]
    exact List.take_left' (hf x)
  | x :: r, i + 1, p, h => by
    simp only [List.getElem?_cons_succ] at h
    rw [List.flatMap_cons, Nat.add_mul, Nat.one_mul, Nat.add_comm, ← hf x, List.drop_append, Nat.add_sub_cancel_left]
    rw [List.drop_of_length_le (by omega), List.nil_append, hf x]
    exact flat_at hf h

theorem flat_length {α β : Type} {f : α → List β} {n : Nat} (hf : ∀ x, (f x).length = n) : ∀ (ps : List α), (ps.flatMap f).length = ps.length * n
  | [] => by simp
  | x :: r => by rw [List.flatMap_cons, List.length_append, hf, flat_length hf r, List.length_cons, Nat.add_mul]; omega

/-- The elements of a row that is put together out of pieces of one size. -/
theorem Row.piece {α : Type} {h : Heap} {A : Option Addr} {f : α → List Value} {n : Nat} {ps : List α} (x : Row h A (ps.flatMap f)) (hf : ∀ x, (f x).length = n) (hn : 0 < n) {i : Nat} {p : α} (hi : ps[i]? = some p) : Elem h A (i * n) n (f p) := by
  have hlt : i < ps.length := by
    rcases Nat.lt_or_ge i ps.length with h | h
    · exact h
    · rw [List.getElem?_eq_none h] at hi; cases hi
  have hl := flat_length hf ps
  have h1 : (i + 1) * n ≤ ps.length * n := Nat.mul_le_mul_right _ hlt
  rw [Nat.add_mul, Nat.one_mul] at h1
  have := x.elem (i := i * n) (n := n) (by omega) (by intro e; rw [e] at hl; simp at hl; omega)
  rw [flat_at hf hi] at this
  exact this

theorem Hp.row {h0 h : Heap} {rs : List Res} (H : Hp h0 h rs) (i : Nat) {b : Nat} {T : TypeId} {z : Nat × Nat} {l xs : List Value} (hn : nth rs i = some (Res.ob b (.cells l.toArray T z))) (hl : l = xs) : Row h (some ⟨b, 0, none⟩) xs := by
  subst hl
  exact Row.of_cells (H.get i hn) (p := []) (q := []) (by simp) rfl

theorem Hp.convSame {E : Env} (hE : E.Ok) {t e : Nat} {y z : Ty} {b o n c : Nat} {l : List Value} {T : TypeId} {h0 h : Heap} {rs : List Res} {K : Value → Heap → Prop} (H : Hp h0 h rs) (i : Nat) (hn : nth rs i = some (Res.ob b (.cells l.toArray T (0, 0)))) (hy : E.ty t = some y) (hd : y.desc = .slice e) (hz : E.ty e = some z) (hzd : z.desc = .int .u8)
    (k : ∀ h', Hp h0 h' (setN rs i (Res.ob b (.cells l.toArray T (l.toArray.size, l.toArray.size + 1)))) → K (.slice (some ⟨b, o, none⟩) n c) h') : SemK E.P (convert t t (.slice (some ⟨b, o, none⟩) n c)) h K :=
  SemK.convSame hE hy hd hz hzd (H.get i hn) fun h' hu => k h' (H.put i hn hu)

theorem Elem.sub {h : Heap} {A : Option Addr} {off n : Nat} {cs : List Value} (x : Elem h A off n cs) {j m off' : Nat} {ds : List Value} (hj : j + m ≤ n) (ho : off' = off + j) (hd : ds = (cs.drop j).take m) : Elem h A off' m ds := by
  obtain ⟨b, o, c, T, fz, hA, hb, hl, hc⟩ := x.out
  subst ho hd
  refine ⟨b, o, c, T, fz, hA, hb, by omega, ?_⟩
  rw [hc, List.drop_take, List.take_take, List.drop_drop, ← Nat.add_assoc, Nat.min_eq_left (by omega)]

/-- copy of bytes into a block. -/
theorem Hp.copyB {E : Env} (hE : E.Ok) {t tx e ty : Nat} {y : Ty} {h0 h : Heap} {rs : List Res} {K : Value → Heap → Prop} (H : Hp h0 h rs) (i : Nat) {g o n cap : Nat} {l : List Value} {T : TypeId} {x : Value} {M : List UInt8} (hn : nth rs i = some (Res.ob g (.cells l.toArray T (0, 0)))) (hx : BytesV h x M)
    (hy : E.ty t = some y) (hd : y.desc = .slice e) (hz : E.ty e = some u8T) (hm : M.length = n) (hroom : o + n ≤ l.length)
    (k : ∀ h', Hp h0 h' (setN rs i (Res.ob g (.cells (putCells l.toArray o (M.map byteV)) T (0, 0)))) → K (.int .i64 (n : Nat)) h') : SemK E.P (Builtin.copy_ #[t, tx] ty #[.slice (some ⟨g, o, none⟩) n cap, x]) h K := by
  subst hm
  obtain ⟨A, c, rfl, _, hr, h0'⟩ := hx.out
  refine SemK.copyS hE hy hd hz (H.get i hn) hr (by simp [u8T]) (fun e => by rw [h0' e]; rfl) (by simpa using hroom) (byteV_one M) fun h' hu => ?_
  have := k h' (H.put i hn hu)
  simpa using this

/-- A text that lies somewhere of its own (it is read alone). -/
def Res.txt (v : Value) (L : List UInt8) : Res := ⟨blkOf v, fun h => BytesV h v L ∧ ∀ k, blkOf v k → k < h.size, fun x k hk => x.2 k hk, fun {h h'} x hk => by
  obtain ⟨hb, hs⟩ := x
  obtain ⟨A, c, rfl, hc, hr, h0⟩ := hb.out
  refine ⟨⟨A, c, rfl, hc, ?_, h0⟩, fun k hk1 => ?_⟩
  · rcases hr.out with e | ⟨b, o, cs, T, fz, hA, hg, hl, hx⟩
    · exact ⟨.inl e⟩
    · exact ⟨.inr ⟨b, o, cs, T, fz, hA, (hk b (by rw [hA]; exact rfl)).trans hg, hl, hx⟩⟩
  · have h1 := hs k hk1
    have h2 := hk k hk1
    rw [Array.getElem?_eq_getElem h1] at h2
    exact lt_of_get h2⟩

/-- A text of new memory. -/
structure Fresh (h0 h : Heap) (v : Value) (L : List UInt8) : Prop where
  txt : BytesV h v L
  new : ∀ k, blkOf v k → h0.size ≤ k ∧ k < h.size

theorem Hp.text {h0 h h' : Heap} {rs : List Res} (H : Hp h0 h rs) {v : Value} {L : List UInt8} (k : Keep (fun _ => False) h h') (f : Fresh h h' v L) : Hp h0 h' (Res.txt v L :: rs) :=
  H.more k ⟨f.txt, fun j hj => (f.new j hj).2⟩ fun j hj => (f.new j hj).1

theorem Hp.read {h0 h : Heap} {rs : List Res} (H : Hp h0 h rs) (i : Nat) {v : Value} {L : List UInt8} (hn : nth rs i = some (Res.txt v L)) : BytesV h v L := (H.get i hn).1

theorem Hp.fresh {h0 h : Heap} {rs : List Res} (H : Hp h0 h rs) (i : Nat) {v : Value} {L : List UInt8} (hn : nth rs i = some (Res.txt v L)) : Fresh h0 h v L :=
  ⟨(H.get i hn).1, fun k hk => ⟨H.own i hn k hk, (H.get i hn).2 k hk⟩⟩

theorem blk_cut {A : Option Addr} {l m z n c n' c' k : Nat} (h : blkOf (.slice (cutA A l m z) n c) k) : blkOf (.slice A n' c') k := by
  cases A with
  | none =>
    unfold cutA at h
    split at h <;> exact h
  | some a =>
    unfold cutA at h
    split at h
    · exact h
    · obtain ⟨b, o, s⟩ := a
      have h : k = (addA ⟨b, o, s⟩ (l * z)).block := h
      have e : (addA ⟨b, o, s⟩ (l * z)).block = b := by
        rw [← addA_eq]
        unfold Addr.add
        split <;> rfl
      rw [e] at h
      exact h

/-- A slice of one's own as a text. -/
theorem Hp.ownFresh {h0 h : Heap} {rs : List Res} (H : Hp h0 h rs) (i : Nat) {v : Value} {e n : Nat} {L : List UInt8} (hn : nth rs i = some (Res.own v e 1 n (L.map byteV))) : Fresh h0 h v L :=
  ⟨H.bytesOwn i hn, fun k hk => ⟨H.own i hn k hk, (Res.own v e 1 n (L.map byteV)).lt (H.get i hn) hk⟩⟩

theorem blk_own {v : Value} {e size n b cap : Nat} {xs : List Value} (hv : v = .slice (some ⟨b, 0, none⟩) n cap) (k : Nat) : (Res.own v e size n xs).blk k = (k = b) := by subst hv; rfl

/-- A slice of one's own that has something, by its block. -/
theorem Hp.opened {h0 h : Heap} {rs : List Res} (H : Hp h0 h rs) (i : Nat) {v : Value} {e size n : Nat} {xs : List Value} (hn : nth rs i = some (Res.own v e size n xs)) (hp : 0 < n) (hs : 0 < size) :
    ∃ b cap r, v = .slice (some ⟨b, 0, none⟩) n cap ∧ n ≤ cap ∧ (xs ++ r).length = cap * size ∧ Hp h0 h (setN rs i (Res.ob b (.cells (xs ++ r).toArray e (0, 0)))) := by
  have o : OwnS 0 h e size v n xs := H.get i hn
  obtain ⟨h1, ⟨c0, rfl, h2, _⟩ | ⟨b, cap, r, rfl, _, hg, hl⟩⟩ := o
  · omega
  · refine ⟨b, cap, r, rfl, ?_, hl, H.change i hn (Keep.refl _ _) hg fun k hk => .inl hk⟩
    rw [List.length_append, ← h1] at hl
    rcases Nat.lt_or_ge cap n with h | h
    · have : (cap + 1) * size ≤ n * size := Nat.mul_le_mul_right _ h
      rw [Nat.add_mul] at this
      omega
    · exact h

theorem Hp.bytesAt {h0 h : Heap} {rs : List Res} (H : Hp h0 h rs) (i : Nat) {b n c : Nat} {T : TypeId} {z : Nat × Nat} {L : List UInt8} {r : List Value} (hn : nth rs i = some (Res.ob b (.cells (L.map byteV ++ r).toArray T z))) (hlen : n = L.length) (hc : n ≤ c) :
    BytesV h (.slice (some ⟨b, 0, none⟩) n c) L := by
  subst hlen
  exact ⟨_, c, rfl, hc, Row.of_cells (H.get i hn) (p := []) (q := r) (by simp) rfl, fun e => by cases e⟩

theorem two_texts {h : Heap} {v1 v2 : Value} {L1 L2 : List UInt8} (h1 : BytesV h v1 L1) (h2 : BytesV h v2 L2) : ∀ (i : Nat) v L, [v1, v2][i]? = some v → [L1, L2][i]? = some L → BytesV h v L := by
  intro i v L a b
  match i with
  | 0 =>
    simp only [List.getElem?_cons_zero, Option.some.injEq] at a b
    subst a b
    exact h1
  | 1 =>
    simp only [List.getElem?_cons_zero, List.getElem?_cons_succ, Option.some.injEq] at a b
    subst a b
    exact h2
  | n + 2 => simp at a

theorem three_texts {h : Heap} {v1 v2 v3 : Value} {L1 L2 L3 : List UInt8} (h1 : BytesV h v1 L1) (h2 : BytesV h v2 L2) (h3 : BytesV h v3 L3) : ∀ (i : Nat) v L, [v1, v2, v3][i]? = some v → [L1, L2, L3][i]? = some L → BytesV h v L := by
  intro i v L a b
  match i with
  | 0 =>
    simp only [List.getElem?_cons_zero, Option.some.injEq] at a b
    subst a b
    exact h1
  | 1 =>
    simp only [List.getElem?_cons_zero, List.getElem?_cons_succ, Option.some.injEq] at a b
    subst a b
    exact h2
  | 2 =>
    simp only [List.getElem?_cons_zero, List.getElem?_cons_succ, Option.some.injEq] at a b
    subst a b
    exact h3
  | n + 3 => simp at a

/-- A text that lies in the midst of a block. -/
theorem Hp.mid {h0 h : Heap} {rs : List Res} (H : Hp h0 h rs) (i : Nat) {b o n c : Nat} {T : TypeId} {z : Nat × Nat} {l p q : List Value} {L : List UInt8} (hn : nth rs i = some (Res.ob b (.cells l.toArray T z))) (hl : l = p ++ L.map byteV ++ q) (ho : o = p.length) (hlen : n = L.length) (hc : n ≤ c) :
    BytesV h (.slice (some ⟨b, o, none⟩) n c) L := by
  subst hlen
  exact ⟨_, c, rfl, hc, Row.of_cells (H.get i hn) hl ho, fun e => by cases e⟩

end Go.Vc

namespace Go.Vc

/-! ### clear, and slices that are cut where they lie -/

theorem zeroCells_length (zc : Array Value) (n : Nat) : (Builtin.zeroCells zc n).toList.length = n * zc.size := by simp [Builtin.zeroCells]

theorem zeroCells_one {zc : Array Value} (h : zc.toList.all oneCell = true) (n : Nat) : (Builtin.zeroCells zc n).toList.all oneCell = true := by
  rw [List.all_eq_true] at h ⊢
  intro x hx
  simp only [Builtin.zeroCells, Array.toList_map, List.mem_map, Array.toList_range, List.mem_range] at hx
  obtain ⟨i, hi, rfl⟩ := hx
  have hs : 0 < zc.size := by
    rcases Nat.eq_zero_or_pos zc.size with h0 | h0
    · rw [h0] at hi; omega
    · exact h0
  have hlt : i % zc.size < zc.size := Nat.mod_lt _ hs
  rw [getElem!_pos zc (i % zc.size) hlt]
  exact h _ (by simp)

theorem SemK.clearS {E : Env} (hE : E.Ok) {t e ty : Nat} {y z : Ty} {zv : Value} {g o n c : Nat} {cs : Array Value} {T : TypeId} {h : Heap} {K : Value → Heap → Prop} (hy : E.ty t = some y) (hd : y.desc = .slice e) (hz : E.ty e = some z) (hzv : z.zero = some zv)
    (hz1 : zv.cells.toList.all oneCell = true) (hg : h[g]? = some (.cells cs T (0, 0))) (hroom : o + n * zv.cells.size ≤ cs.size)
    (k : ∀ h' ys, ys.length = n * zv.cells.size → Upd h g (.cells (putCells cs o ys) T (0, 0)) h' → K (.tuple #[]) h') : SemK E.P (Builtin.clear_ #[t] ty #[.slice (some ⟨g, o, none⟩) n c]) h K := by
  refine ⟨fun w hw => ?_⟩
  subst hw
  have hu := hE.underlying hy w
  rw [hd] at hu
  cases n with
  | zero =>
    refine ⟨.tuple #[], w, ?_, Same.refl _, k _ [] (by simp) ⟨rfl, hg, fun _ _ => rfl⟩⟩
    unfold Builtin.clear_
    simp only [List.getElem?_toArray, List.getElem?_cons_zero, Sem.run_bind, hu, Result.andThen_ok, Sem.run_pure]
  | succ n =>
    have hl := zeroCells_length zv.cells (n + 1)
    obtain ⟨w', hr, hsm, hup⟩ := storeCells_ok (P := E.P) (o := o) (Builtin.zeroCells zv.cells (n + 1)).toList 0 cs w hg (by rw [hl]; omega) (zeroCells_one hz1 _)
    refine ⟨.tuple #[], w', ?_, hsm, k _ _ hl (by simpa using hup)⟩
    have hzr := hE.zeroValue hz hzv w
    unfold Builtin.clear_
    simp only [List.getElem?_toArray, List.getElem?_cons_zero, Sem.run_bind, hu, Result.andThen_ok, Sem.run_pure, hzr, hr]


/-- A value is stored into the midst of a block. -/
theorem Hp.stMid {E : Env} {t b p : Nat} {x : Value} {h0 h : Heap} {rs : List Res} {l a q r : List Value} {T : TypeId} {y : Ty} {K : Heap → Prop} (H : Hp h0 h rs) (i : Nat) (hn : nth rs i = some (Res.ob b (.cells l.toArray T (0, 0)))) (hl : l = a ++ q ++ r) (hy : E.ty t = some y)
    (hs : x.cells.size = y.size) (hq : q.length = y.size) (h1 : x.cells.toList.all oneCell = true) (hp : p = a.length) (k : ∀ h', Hp h0 h' (setN rs i (Res.ob b (.cells (a ++ x.cells.toList ++ r).toArray T (0, 0)))) → K h') :
    StK E t (.pointer (some ⟨b, p, none⟩)) x h K := by
  subst hl hp
  refine ⟨b, a.length, _, T, y, rfl, H.get i hn, hy, hs, by simp; omega, h1, fun h' hu => k h' ?_⟩
  rw [putCells_mid _ _ _ _ (by simp; omega)] at hu
  exact H.put i hn hu

/-- append of what lies in a block to what lies ahead in it. -/
theorem Hp.appendIn {E : Env} (hE : E.Ok) {t tx e ty : Nat} {y z x0 : Ty} {b n cap m c : Nat} {B : Option Addr} {h0 h : Heap} {rs : List Res} {l a q r ys : List Value} {T : TypeId} {K : Value → Heap → Prop} (H : Hp h0 h rs) (i : Nat) (hn : nth rs i = some (Res.ob b (.cells l.toArray T (0, 0))))
    (hl : l = a ++ q ++ r) (hy : E.ty t = some y) (hd : y.desc = .slice e) (hz : E.ty e = some z) (hx0 : E.ty tx = some x0) (hdx : ∀ k, x0.desc ≠ .int k) (hB : Row h B ys) (hys : m * z.size = ys.length) (hB0 : B = none → m = 0) (hfit : n + m ≤ cap)
    (ha : n * z.size = a.length) (hq : q.length = ys.length) (h1 : ys.all oneCell = true)
    (k : ∀ h', Hp h0 h' (setN rs i (Res.ob b (.cells (a ++ ys ++ r).toArray T (0, 0)))) → K (.slice (some ⟨b, 0, none⟩) (n + m) cap) h') :
    SemK E.P (Builtin.append_ #[t, tx] ty #[.slice (some ⟨b, 0, none⟩) n cap, .slice B m c]) h K := by
  subst hl
  refine SemK.append_fit hE hy hd hz hx0 hdx (H.get i hn) hB hys hB0 hfit (by simp; omega) h1 fun h' hu => k h' ?_
  rw [Nat.zero_add, ha, putCells_mid _ _ _ _ hq] at hu
  exact H.put i hn hu

theorem Hp.clearIn {E : Env} (hE : E.Ok) {t e ty : Nat} {y z : Ty} {zv : Value} {b o n c : Nat} {h0 h : Heap} {rs : List Res} {l a q r : List Value} {T : TypeId} {K : Value → Heap → Prop} (H : Hp h0 h rs) (i : Nat) (hn : nth rs i = some (Res.ob b (.cells l.toArray T (0, 0))))
    (hl : l = a ++ q ++ r) (hy : E.ty t = some y) (hd : y.desc = .slice e) (hz : E.ty e = some z) (hzv : z.zero = some zv) (hz1 : zv.cells.toList.all oneCell = true) (ho : n = 0 ∨ o = a.length) (hq : q.length = n * zv.cells.size)
    (k : ∀ h' ys, ys.length = q.length → Hp h0 h' (setN rs i (Res.ob b (.cells (a ++ ys ++ r).toArray T (0, 0)))) → K (.tuple #[]) h') :
    SemK E.P (Builtin.clear_ #[t] ty #[.slice (some ⟨b, o, none⟩) n c]) h K := by
  subst hl
  rcases ho with rfl | rfl
  · have hq0 : q = [] := List.eq_nil_of_length_eq_zero (by omega)
    subst hq0
    refine ⟨fun w hw => ?_⟩
    subst hw
    have hu := hE.underlying hy w
    rw [hd] at hu
    refine ⟨.tuple #[], w, ?_, Same.refl _, k _ [] rfl (H.put i hn ⟨rfl, H.get i hn, fun _ _ => rfl⟩)⟩
    unfold Builtin.clear_
    simp only [List.getElem?_toArray, List.getElem?_cons_zero, Sem.run_bind, hu, Result.andThen_ok, Sem.run_pure]
  · refine SemK.clearS hE hy hd hz hzv hz1 (H.get i hn) (by simp; omega) fun h' ys hys hu => k h' ys (by omega) ?_
    rw [putCells_mid _ _ _ _ (by omega)] at hu
    exact H.put i hn hu

/-- Elements of one size, one behind the other. -/
theorem flat_take {α β : Type} {f : α → List β} {n : Nat} (hf : ∀ x, (f x).length = n) : ∀ (l : List α) (i : Nat), (l.take i).flatMap f = (l.flatMap f).take (i * n)
  | [], i => by simp
  | x :: r, 0 => by simp
  | x :: r, i + 1 => by
    rw [List.take_succ_cons, List.flatMap_cons, List.flatMap_cons, flat_take hf r i, Nat.add_mul, Nat.one_mul, Nat.add_comm, List.take_append, hf x, List.take_of_length_le (l := f x) (by rw [hf]; omega), Nat.add_sub_cancel_left]

theorem flat_drop {α β : Type} {f : α → List β} {n : Nat} (hf : ∀ x, (f x).length = n) : ∀ (l : List α) (i : Nat), (l.drop i).flatMap f = (l.flatMap f).drop (i * n)
  | [], i => by simp
  | x :: r, 0 => by simp
  | x :: r, i + 1 => by
    rw [List.drop_succ_cons, List.flatMap_cons, flat_drop hf r i, Nat.add_mul, Nat.one_mul, Nat.add_comm, List.drop_append, hf x, List.drop_of_length_le (l := f x) (by rw [hf]; omega), Nat.add_sub_cancel_left, List.nil_append]

theorem flat_one {α : Type} {f : α → List Value} (hf : ∀ x, (f x).all oneCell = true) (l : List α) : (l.flatMap f).all oneCell = true := by
  rw [List.all_flatMap]
  exact List.all_eq_true.2 fun x _ => hf x

end Go.Vc
