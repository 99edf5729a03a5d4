import Derived.Test.YtloghahkelogbaaSrt1
import Derived.Test.YtloghahkelogbaaPolice1
namespace Go.Proofs.Ytloghahkelogbaa
open Go.Vc
set_option maxRecDepth 10000
set_option maxHeartbeats 4000000

/-! ### numbers are sorted -/

theorem srt_holds {w : World} {h : Heap} {b T : Nat} {zs : List Int} {r : List Value} (hw : w.heap = h) (hb : h[b]? = some (.cells (zs.map pI ++ r).toArray T (0, 0))) : Go.Sort.Holds (Value.int .i64) w b 0 zs.toArray := by
  intro j hj
  have hj' : j < zs.length := by simpa using hj
  have e1 : w.heap[b]? = some (.cells (zs.map pI ++ r).toArray T (0, 0)) := by rw [hw]; exact hb
  refine ⟨?_, ?_⟩
  · unfold World.cell?
    dsimp only
    rw [e1]
    simp only [Option.isSome_none, Bool.false_eq_true, if_false, Nat.zero_add, List.getElem?_toArray]
    rw [List.getElem?_append_left (by simpa using hj'), List.getElem?_map, List.getElem?_eq_getElem hj']
    rw [getElem!_pos zs.toArray j hj]
    rfl
  · unfold World.frozen?
    dsimp only
    rw [e1]
    simp

theorem srt_put {zs ys : List Int} {r : List Value} (hl : ys.length = zs.length) : Go.Sort.putCells (Value.int .i64) 0 ys.toArray (zs.map pI ++ r).toArray = (ys.map pI ++ r).toArray := by
  unfold Go.Sort.putCells
  apply Array.ext_getElem?
  intro k
  rw [Array.getElem?_mapIdx]
  simp only [List.getElem?_toArray, List.size_toArray, Nat.zero_add, Nat.zero_le, true_and, Nat.sub_zero]
  by_cases hk : k < ys.length
  · rw [List.getElem?_append_left (by simpa [← hl] using hk), List.getElem?_append_left (by simpa using hk), List.getElem?_map, List.getElem?_map, List.getElem?_eq_getElem (by omega), List.getElem?_eq_getElem hk]
    simp only [Option.map_some, if_pos hk]
    rw [getElem!_pos ys.toArray k (by simpa using hk)]
    rfl
  · rw [List.getElem?_append_right (by simp; omega), List.getElem?_append_right (by simp; omega)]
    simp only [List.length_map, hl]
    cases r[k - zs.length]? with
    | none => rfl
    | some x => simp only [Option.map_some]; rw [if_neg (by omega)]

/-- Numbers in rising order. -/
def rise (zs : List Int) : List Int := zs.mergeSort fun x y => decide (x ≤ y)

theorem sort_call {h0 h : Heap} {rs : List Res} (H : Hp h0 h rs) (i : Nat) {b cap : Nat} {zs : List Int} (hn : nth rs i = some (Res.own (.slice (some ⟨b, 0, none⟩) zs.length cap) 3 1 zs.length (zs.map pI))) (hsz : zs.length < 4611686018427387904) :
    CallK Try.prog 34 #[.slice (some ⟨b, 0, none⟩) zs.length cap] h fun v h' => v = .tuple #[] ∧ Hp h0 h' (setN rs i (Res.own (.slice (some ⟨b, 0, none⟩) zs.length cap) 3 1 zs.length ((rise zs).map pI))) := by
  have o : OwnS 0 h 3 1 (.slice (some ⟨b, 0, none⟩) zs.length cap) zs.length (zs.map pI) := H.get i hn
  have hy : (rise zs).length = zs.length := List.length_mergeSort _
  obtain ⟨ho, ⟨c, e, _⟩ | ⟨b1, cap1, r, e, _, hb, hl⟩⟩ := o
  · cases e
  injection e with e1 _ e3
  injection e1 with e1
  injection e1 with e1
  subst e1
  subst e3
  refine ⟨fun w hw => (Any.slices_Sort_int sortLays b 0 cap zs w (srt_holds hw hb) (by rw [hw]; exact lt_of_get hb) hsz).mono ?_⟩
  rintro e w' ⟨rfl, n, os, rfl⟩
  refine ⟨_, rfl, ⟨rfl, rfl, rfl⟩, rfl, ?_⟩
  have hs : ∀ k, k < h.size → (Go.Sort.grow (Go.Sort.putRow (Value.int .i64) (Go.Sort.ahead w n) b 0 (rise zs).toArray) os).heap[k]? = if b = k then some (.cells ((rise zs).map pI ++ r).toArray 3 (0, 0)) else h[k]? := by
    intro k hk
    show ((w.heap.modify b _) ++ os)[k]? = _
    rw [hw, Array.getElem?_append_left (by simpa using hk), Array.getElem?_modify]
    by_cases c : b = k
    · rw [if_pos c, if_pos c, ← c, hb]
      simp only [Option.map_some, Go.Sort.onCells]
      rw [srt_put hy]
    · rw [if_neg c, if_neg c]
  refine H.change i hn ⟨?_, ?_⟩ ?_ ?_
  · show h.size ≤ ((w.heap.modify b _) ++ os).size
    rw [hw]; simp
  · intro k hk hn
    rw [show (Go.Sort.grow (Go.Sort.putRow (Value.int .i64) (Go.Sort.ahead w n) b 0 (zs.mergeSort fun x y => decide (x ≤ y)).toArray) os).heap[k]? = _ from hs k hk, if_neg]
    intro c
    exact hn (show blkOf (.slice (some ⟨b, 0, none⟩) zs.length cap) k from c.symm)
  · show OwnS 0 _ _ _ _ _ _
    refine ⟨by simp [hy], .inr ⟨b, cap, r, rfl, Nat.zero_le _, ?_, ?_⟩⟩
    · rw [show (Go.Sort.grow (Go.Sort.putRow (Value.int .i64) (Go.Sort.ahead w n) b 0 (zs.mergeSort fun x y => decide (x ≤ y)).toArray) os).heap[b]? = _ from hs b (lt_of_get hb), if_pos rfl]
    · simp only [List.length_append, List.length_map] at hl ⊢
      omega
  · intro k hk
    exact .inl hk

end Go.Proofs.Ytloghahkelogbaa
