import Derived.Test.YtloghahkelogbaaStream2
namespace Go.Proofs.Ytloghahkelogbaa
open Go.Vc
set_option maxRecDepth 10000
set_option maxHeartbeats 4000000

/-! ### stream: a filter goes, or comes -/

theorem row_cut {h : Heap} {b i m s : Nat} {T : TypeId} {z : Nat × Nat} {l a ys r : List Value} (hb : h[b]? = some (.cells l.toArray T z)) (hl : l = a ++ ys ++ r) (ha : a.length = i * s) (hy : m = i → ys = []) : Row h (cutA (some ⟨b, 0, none⟩) i m s) ys := by
  rw [cutA_some]
  split
  · rename_i e
    rw [hy e]
    exact Row.nil _ _
  · exact Row.of_cells hb hl (by omega)

theorem Hp.appendIn' {E : Env} (hE : E.Ok) {t tx e ty : Nat} {y z x0 : Ty} {v1 v2 : Value} {b n cap m c : Nat} {B : Option Addr} {h0 h : Heap} {rs : List Res} {l a q r ys : List Value} {T : TypeId} {K : Value → Heap → Prop} (H : Hp h0 h rs) (i : Nat) (hn : nth rs i = some (Res.ob b (.cells l.toArray T (0, 0))))
    (h1' : v1 = .slice (some ⟨b, 0, none⟩) n cap) (h2' : v2 = .slice B m c)
    (hl : l = a ++ q ++ r) (hy : E.ty t = some y) (hd : y.desc = .slice e) (hz : E.ty e = some z) (hx0 : E.ty tx = some x0) (hdx : ∀ k, x0.desc ≠ .int k) (hB : Row h B ys) (hys : m * z.size = ys.length) (hB0 : B = none → m = 0) (hfit : n + m ≤ cap)
    (ha : n * z.size = a.length) (hq : q.length = ys.length) (h1 : ys.all oneCell = true)
    (k : ∀ h', Hp h0 h' (setN rs i (Res.ob b (.cells (a ++ ys ++ r).toArray T (0, 0)))) → K (.slice (some ⟨b, 0, none⟩) (n + m) cap) h') :
    SemK E.P (Builtin.append_ #[t, tx] ty #[v1, v2]) h K := by
  subst h1' h2'
  exact Hp.appendIn hE H i hn hl hy hd hz hx0 hdx hB hys hB0 hfit ha hq h1 k

theorem Hp.clearIn' {E : Env} (hE : E.Ok) {t e ty : Nat} {y z : Ty} {zv v : Value} {b o n c : Nat} {h0 h : Heap} {rs : List Res} {l a q r : List Value} {T : TypeId} {K : Value → Heap → Prop} (H : Hp h0 h rs) (i : Nat) (hn : nth rs i = some (Res.ob b (.cells l.toArray T (0, 0))))
    (hv : v = .slice (some ⟨b, o, none⟩) n c) (hl : l = a ++ q ++ r) (hy : E.ty t = some y) (hd : y.desc = .slice e) (hz : E.ty e = some z) (hzv : z.zero = some zv) (hz1 : zv.cells.toList.all oneCell = true) (ho : n = 0 ∨ o = a.length) (hq : q.length = n * zv.cells.size)
    (k : ∀ h' ys, ys.length = q.length → Hp h0 h' (setN rs i (Res.ob b (.cells (a ++ ys ++ r).toArray T (0, 0)))) → K (.tuple #[]) h') :
    SemK E.P (Builtin.clear_ #[t] ty #[v]) h K := by
  subst hv
  exact Hp.clearIn hE H i hn hl hy hd hz hzv hz1 ho hq k

theorem flat_cut {α β : Type} {f : α → List β} {fs : List α} {i : Nat} {x : α} (hx : fs[i]? = some x) : fs.flatMap f = (fs.take i).flatMap f ++ (f x ++ (fs.drop (i + 1)).flatMap f) := by
  have hi : i < fs.length := by
    rcases Nat.lt_or_ge i fs.length with h | h
    · exact h
    · rw [List.getElem?_eq_none h] at hx; cases hx
  rw [List.getElem?_eq_getElem hi] at hx
  injection hx with hx
  conv => lhs; rw [← List.take_append_drop i fs, List.drop_eq_getElem_cons hi, hx]
  rw [List.flatMap_append, List.flatMap_cons]

end Go.Proofs.Ytloghahkelogbaa
