import Derived.Test.YtcjilkemfmhkgaaOpt
import Derived.Test.YtcjilkemfmhkgaaArgs
namespace Go.Proofs.Ytcjilkemfmhkgaa
open Go.Vc
set_option maxRecDepth 10000
set_option maxHeartbeats 4000000

/-! ### what several walks share -/

theorem rows_ld1 {α : Type} {f : α → List Value} {E : Env} {t b o n c p : Nat} {h : Heap} {xs : List α} {i : Nat} {y : α} {v : Value} {T : Ty} {K : Value → Prop} (x : RowsV f 1 h (.slice (some ⟨b, o, none⟩) n c) xs) (hi : xs[i]? = some y) (hf : f y = [v]) (hy : E.ty t = some T) (hs : T.size = 1) (ha : T.agg = false) (hp : p = o + i)
    (k : K v) : LdK E t (.pointer (some ⟨b, p, none⟩)) h K := by
  have e := x.at_ hi
  rw [hf, Nat.mul_one, ← hs] at e
  refine LdK.elem e hy hp (.inr ⟨v, rfl⟩) ?_
  rw [ha]
  exact k

/-- A block of the heap from which one began is read. -/
theorem ldO {E : Env} {t b o : Nat} {h0 h : Heap} {rs : List Res} {l : List Value} {T : TypeId} {z : Nat × Nat} {u : Value} {K : Value → Prop} (H : Hp h0 h rs) (hn : h0[b]? = some (.cells l.toArray T z))
    (hr : rdLit E t l o = some u) (k : K u) : LdK E t (.pointer (some ⟨b, o, none⟩)) h K := LdK.lit ((H.keep.old b (lt_of_get hn) (fun x => x)).trans hn) hr k

/-- n is the place of the first that p holds of, or -1. -/
def FirstAt {α : Type} (p : α → Bool) (xs : List α) (n : Int) : Prop := (n = -1 ∧ xs.any p = false) ∨ ∃ (i : Nat) (x : α), n = i ∧ xs[i]? = some x ∧ p x = true ∧ (xs.take i).any p = false

theorem any_take {α : Type} {p : α → Bool} {l : List α} {i : Nat} {x : α} (h : l[i]? = some x) : (l.take (i + 1)).any p = ((l.take i).any p || p x) := by
  rw [List.take_add_one, h]
  simp

theorem tup_two (a b : Value) : tup [a, b] = .tuple #[a, b] := rfl

theorem first_find {α : Type} {p : α → Bool} : ∀ {xs : List α} {i : Nat} {x : α}, xs[i]? = some x → p x = true → (xs.take i).any p = false → xs.find? p = some x
  | [], i, x, h, _, _ => by simp at h
  | y :: r, 0, x, h, hp, _ => by
    simp only [List.getElem?_cons_zero, Option.some.injEq] at h
    subst h
    rw [List.find?_cons, hp]
  | y :: r, i + 1, x, h, hp, ha => by
    simp only [List.getElem?_cons_succ] at h
    simp only [List.take_succ_cons, List.any_cons, Bool.or_eq_false_iff] at ha
    rw [List.find?_cons, ha.1]
    exact first_find h hp ha.2

theorem none_find {α : Type} {p : α → Bool} {xs : List α} (h : xs.any p = false) : xs.find? p = none := by
  rw [List.find?_eq_none]
  intro x hx
  rw [List.any_eq_false] at h
  exact h x hx

theorem row_cut {h : Heap} {b i m s : Nat} {T : TypeId} {z : Nat × Nat} {l a ys r : List Value} (hb : h[b]? = some (.cells l.toArray T z)) (hl : l = a ++ ys ++ r) (ha : a.length = i * s) (hy : m = i → ys = []) : Row h (cutA (some ⟨b, 0, none⟩) i m s) ys := by
  rw [cutA_some]
  split
  · rename_i e
    rw [hy e]
    exact Row.nil _ _
  · exact Row.of_cells hb hl (by omega)

theorem Hp.appendIn' {E : Env} (hE : E.Ok) {t tx e ty : Nat} {y z x0 : Ty} {v1 v2 : Value} {b n cap m c : Nat} {B : Option Addr} {h0 h : Heap} {rs : List Res} {l a q r ys : List Value} {T : TypeId} {K : Value → Heap → Prop} (H : Hp h0 h rs) (i : Nat) (hn : nth rs i = some (Res.ob b (.cells l.toArray T (0, 0))))
    (h1' : v1 = .slice (some ⟨b, 0, none⟩) n cap) (h2' : v2 = .slice B m c)
    (hl : l = a ++ q ++ r) (hy : E.ty t = some y) (hd : y.desc = .slice e) (hz : E.ty e = some z) (hx0 : E.ty tx = some x0) (hdx : ∀ k, x0.desc ≠ .int k) (hB : Row h B ys) (hys : m * z.size = ys.length) (hB0 : B = none → m = 0) (hfit : n + m ≤ cap)
    (ha : n * z.size = a.length) (hq : q.length = ys.length) (h1 : ys.all oneCell = true)
    (k : ∀ h', Hp h0 h' (setN rs i (Res.ob b (.cells (a ++ ys ++ r).toArray T (0, 0)))) → K (.slice (some ⟨b, 0, none⟩) (n + m) cap) h') :
    SemK E.P (Builtin.append_ #[t, tx] ty #[v1, v2]) h K := by
  subst h1' h2'
  exact Hp.appendIn hE H i hn hl hy hd hz hx0 hdx hB hys hB0 hfit ha hq h1 k

theorem Hp.clearIn' {E : Env} (hE : E.Ok) {t e ty : Nat} {y z : Ty} {zv v : Value} {b o n c : Nat} {h0 h : Heap} {rs : List Res} {l a q r : List Value} {T : TypeId} {K : Value → Heap → Prop} (H : Hp h0 h rs) (i : Nat) (hn : nth rs i = some (Res.ob b (.cells l.toArray T (0, 0))))
    (hv : v = .slice (some ⟨b, o, none⟩) n c) (hl : l = a ++ q ++ r) (hy : E.ty t = some y) (hd : y.desc = .slice e) (hz : E.ty e = some z) (hzv : z.zero = some zv) (hz1 : zv.cells.toList.all oneCell = true) (ho : n = 0 ∨ o = a.length) (hq : q.length = n * zv.cells.size)
    (k : ∀ h' ys, ys.length = q.length → Hp h0 h' (setN rs i (Res.ob b (.cells (a ++ ys ++ r).toArray T (0, 0)))) → K (.tuple #[]) h') :
    SemK E.P (Builtin.clear_ #[t] ty #[v]) h K := by
  subst hv
  exact Hp.clearIn hE H i hn hl hy hd hz hzv hz1 ho hq k

theorem flat_cut {α β : Type} {f : α → List β} {fs : List α} {i : Nat} {x : α} (hx : fs[i]? = some x) : fs.flatMap f = (fs.take i).flatMap f ++ (f x ++ (fs.drop (i + 1)).flatMap f) := by
  have hi : i < fs.length := by
    rcases Nat.lt_or_ge i fs.length with h | h
    · exact h
    · rw [List.getElem?_eq_none h] at hx; cases hx
  rw [List.getElem?_eq_getElem hi] at hx
  injection hx with hx
  conv => lhs; rw [← List.take_append_drop i fs, List.drop_eq_getElem_cons hi, hx]
  rw [List.flatMap_append, List.flatMap_cons]

theorem Hp.append' {E : Env} (hE : E.Ok) {t tx e ty : Nat} {y z x0 : Ty} {zv : Value} {B : Option Addr} {h0 h : Heap} {rs : List Res} {n m c : Nat} {v x : Value} {xs ys : List Value} {K : Value → Heap → Prop} (H : Hp h0 h rs) (i : Nat) (hn : nth rs i = some (Res.own v e z.size n xs)) (hx : x = .slice B m c)
    (hB : Row h B ys) (hys : m * z.size = ys.length) (hB0 : B = none → m = 0) (h1 : ys.all oneCell = true) (hy : E.ty t = some y) (hd : y.desc = .slice e) (hz : E.ty e = some z) (hzv : z.zero = some zv) (hzs : zv.cells.size = z.size) (hx0 : E.ty tx = some x0) (hdx : ∀ k, x0.desc ≠ .int k)
    (hbytes : (n + m) * z.bytes ≤ 140737488355328) (hb0 : 0 < z.bytes) (hs0 : 0 < z.size)
    (k : ∀ v' h', Hp h0 h' (setN rs i (Res.own v' e z.size (n + m) (xs ++ ys))) → K v' h') : SemK E.P (Builtin.append_ #[t, tx] ty #[v, x]) h K := by
  subst hx
  exact Hp.append hE H i hn hB hys hB0 h1 hy hd hz hzv hzs hx0 hdx hbytes hb0 hs0 k

def i64T : Ty := ⟨.int .i64, 1, 8, false, some (.int .i64 0)⟩
def isT : Ty := ⟨.slice 3, 1, 24, false, some (.slice none 0 0)⟩

theorem flat_set {α β : Type} {f : α → List β} {xs : List α} {i : Nat} {y : α} (hi : i < xs.length) : (xs.set i y).flatMap f = (xs.take i).flatMap f ++ (f y ++ (xs.drop (i + 1)).flatMap f) := by
  rw [List.set_eq_take_append_cons_drop, if_pos hi, List.flatMap_append, List.flatMap_cons]

end Go.Proofs.Ytcjilkemfmhkgaa
