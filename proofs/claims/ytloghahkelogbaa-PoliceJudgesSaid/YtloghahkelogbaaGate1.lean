import Derived.Test.YtloghahkelogbaaGateLaw
import Derived.Test.YtloghahkelogbaaSame
namespace Go.Proofs.Ytloghahkelogbaa
open Go.Vc
set_option maxRecDepth 10000
set_option maxHeartbeats 4000000

/-! ### gate: lists that lie in a heap -/

def Ent.cells (x : Ent) : List Value := [.int .i64 x.op, .int .i64 x.ns]
def Gl.cells (l : Gl) (s : Value) : List Value := [.int .i64 l.base, .int .i64 l.cycle, .int .i64 l.ext, s]

structure EntsV (h : Heap) (v : Value) (es : List Ent) : Prop where
  out : ∃ A c, v = .slice A es.length c ∧ es.length ≤ c ∧ ∀ (i : Nat) x, es[i]? = some x → Elem h A (i * 2) 2 x.cells

theorem EntsV.keep {h h' : Heap} {v : Value} {es : List Ent} (x : EntsV h v es) (k : Keep (fun _ => False) h h') : EntsV h' v es := by
  obtain ⟨A, c, hv, hc, he⟩ := x.out
  exact ⟨A, c, hv, hc, fun i y hi => (he i y hi).keep k⟩

theorem EntsV.at_ {h : Heap} {A : Option Addr} {n c : Nat} {es : List Ent} (x : EntsV h (.slice A n c) es) {i : Nat} {y : Ent} (hi : es[i]? = some y) : Elem h A (i * 2) 2 y.cells := by
  obtain ⟨A', c', hv, hc, he⟩ := x.out
  injection hv with h1 _ _
  subst h1
  exact he i y hi

theorem EntsV.some {h : Heap} {A : Option Addr} {n c : Nat} {es : List Ent} (x : EntsV h (.slice A n c) es) (hn : 0 < es.length) : ∃ b o, A = .some ⟨b, o, none⟩ := by
  obtain ⟨y, hy⟩ := list_at (L := es) (i := 0) hn
  exact (x.at_ hy).some

/-- An entry is read. -/
theorem ent_ld {E : Env} {t b o n c p : Nat} {h : Heap} {es : List Ent} {i : Nat} {y : Ent} {T : Ty} {K : Value → Prop} (x : EntsV h (.slice (some ⟨b, o, none⟩) n c) es) (hi : es[i]? = some y) (hy : E.ty t = some T) (hs : T.size = 2) (ha : T.agg = true) (hp : p = o + i * 2)
    (k : K (.agg y.cells.toArray)) : LdK E t (.pointer (some ⟨b, p, none⟩)) h K := by
  have e := x.at_ hi
  rw [← hs] at e
  refine LdK.elem e hy (by rw [hp, hs]) (.inl ha) ?_
  rw [ha]
  exact k

theorem ent_op {E : Env} {t b o n c p : Nat} {h : Heap} {es : List Ent} {i : Nat} {y : Ent} {T : Ty} {K : Value → Prop} (x : EntsV h (.slice (some ⟨b, o, none⟩) n c) es) (hi : es[i]? = some y) (hy : E.ty t = some T) (hs : T.size = 1) (ha : T.agg = false) (hp : p = o + i * 2)
    (k : K (.int .i64 y.op)) : LdK E t (.pointer (some ⟨b, p, none⟩)) h K := by
  have e := (x.at_ hi).sub (j := 0) (m := 1) (off' := i * 2) (ds := [.int .i64 y.op]) (by decide) rfl rfl
  rw [← hs] at e
  refine LdK.elem e hy hp (.inr ⟨_, rfl⟩) ?_
  rw [ha]
  exact k

theorem ent_ns {E : Env} {t b o n c p : Nat} {h : Heap} {es : List Ent} {i : Nat} {y : Ent} {T : Ty} {K : Value → Prop} (x : EntsV h (.slice (some ⟨b, o, none⟩) n c) es) (hi : es[i]? = some y) (hy : E.ty t = some T) (hs : T.size = 1) (ha : T.agg = false) (hp : p = o + (i * 2 + 1))
    (k : K (.int .i64 y.ns)) : LdK E t (.pointer (some ⟨b, p, none⟩)) h K := by
  have e := (x.at_ hi).sub (j := 1) (m := 1) (off' := i * 2 + 1) (ds := [.int .i64 y.ns]) (by decide) rfl rfl
  refine LdK.elem (y := T) (off := i * 2 + 1) (cs := [.int .i64 y.ns]) ?_ hy hp (.inr ⟨_, rfl⟩) ?_
  · rw [hs]
    exact e
  · rw [ha]
    exact k

theorem pre_le {es : List Ent} (hp : ∀ x ∈ es, 1 ≤ x.ns ∧ x.ns ≤ 1000000000) : ∀ i : Nat, i ≤ es.length → 0 ≤ pre es i ∧ pre es i ≤ i * 1000000000
  | 0, _ => by rw [pre_zero]; omega
  | i + 1, h => by
    obtain ⟨x, hx⟩ := list_at (L := es) (i := i) (by omega)
    have h1 := pre_le hp i (by omega)
    have h2 := pre_succ hx
    have h3 := hp x (List.mem_of_getElem? hx)
    omega

/-! ### the state at a time, and the next edge -/

theorem Gl.into_tmod {l : Gl} {t : Int} (ht : l.base ≤ t) : (t - l.base).tmod l.cycle = l.into t := by
  unfold Gl.into
  exact Int.tmod_eq_emod_of_nonneg (by omega)

end Go.Proofs.Ytloghahkelogbaa
