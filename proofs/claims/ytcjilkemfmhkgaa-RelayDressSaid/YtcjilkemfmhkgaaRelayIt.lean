import Derived.RangeFuncBox
import Derived.RangeFuncLeaves
import Derived.Shelf.Abstract
import Derived.WalkKit
import Derived.OwnWalkIn
import Derived.TacticsInMore
import Derived.LoopNIn
import Derived.LoopIn
import Derived.Test.YtcjilkemfmhkgaaRelay1
namespace Go.Proofs.Ytcjilkemfmhkgaa
open Go.RowKit Go.Shelf Go.Vc
set_option maxRecDepth 100000
set_option maxHeartbeats 4000000

attribute [local go_sem] Oper.semAt_some

/-! ### relay: the ports that a frame may go to, one by one -/

theorem below_of {w w' : World} (s : Same w w') (k : Keep (fun _ => False) w.heap w'.heap) {n : Nat} (hn : n ≤ w.heap.size) : Below n w w' :=
  ⟨s.os, s.tape, s.output, k.size, fun i hi => k.old i (by omega) fun x => x⟩
theorem grown_of {w w' : World} (s : Same w w') (k : Keep (fun _ => False) w.heap w'.heap) : w.grownBy w' none := ⟨s.os, s.tape, s.output, k.size, fun i hi _ => k.old i hi fun x => x⟩

def outP (T : List VRow) (sts : List Int) (p v : Int) (k : Nat) : List Int := ((List.range k).map fun (i : Nat) => (i : Int)).filter fun to => decide (to ≠ p) && opnR T sts v to

theorem outP_succ (T : List VRow) (sts : List Int) (p v : Int) (k : Nat) : outP T sts p v (k + 1) = outP T sts p v k ++ (if (decide ((k : Int) ≠ p) && opnR T sts v k) = true then [(k : Int)] else []) := by
  unfold outP
  rw [List.range_succ, List.map_append, List.filter_append]
  congr 1
  simp only [List.map_cons, List.map_nil, List.filter_cons, List.filter_nil]

theorem outP_len (T : List VRow) (sts : List Int) (p v : Int) (k : Nat) : (outP T sts p v k).length ≤ k := by
  refine Nat.le_trans (List.length_filter_le _ _) ?_
  simp

theorem others1_in {g gF : Nat} {sS s0 s1 s2 s3 : Value} {ps : List VPort} {T : List VRow} {sts : List Int} (n : Nat) (hn : 1 ≤ n) (t l b1 b2 b3 : Nat) (p v : Int) (w : World) (t1 : b1 ≠ t) (t2 : b2 ≠ t) (t3 : b3 ≠ t)
    (hb : ∀ W, BelT t w.heap.size w W → BrV W.heap g gF sS s0 s1 s2 s3 ps T sts) (hl : T.length ≤ 9223372036854775807) (hsm : SmallT T)
    (h1 : w.heap[b1]? = some (.cells (brg g gF sS).toArray 31 (0, 0))) (h2 : w.heap[b2]? = some (.cells ([.int .i64 p] : List Value).toArray 3 (0, 0))) (h3 : w.heap[b3]? = some (.cells ([.int .i64 v] : List Value).toArray 3 (0, 0)))
    (hps : ps.length ≤ 1000) (J Jx : List Int → World → Prop) (W : World) (hW : Below w.heap.size w W) (hJ : AbidesFrom W.heap.size J)
    (hY : ∀ pre x W1, J pre W1 → pre.length < ps.length → YieldAt Fence.wide (n - 1) Try.prog l #[.int .i64 x] W1 fun e W' =>
      (e = .returned (.bool true) ∧ J (pre ++ [x]) W' ∧ BelT t w.heap.size W1 W') ∨ (e = .returned (.bool false) ∧ Jx (pre ++ [x]) W'))
    (h0 : J [] W) :
    CallsIn Fence.wide n Try.prog 41 #[.func (.yield l) #[] #[], .pointer (some ⟨b1, 0, none⟩), .pointer (some ⟨b2, 0, none⟩), .pointer (some ⟨b3, 0, none⟩)] W fun e W' => (∃ v, e = .returned v) ∧
      ((∃ ys, ys = outP T sts p v ps.length ∧ J ys W') ∨ (∃ pre, True ∧ Jx pre W')) := by
  have cell : ∀ {W1 : World} {b : Nat} {c : Array Value} {T : TypeId} {i : Nat}, BelT t w.heap.size w W1 → b ≠ t → w.heap[b]? = some (.cells c T (0, 0)) → W1.cell? ⟨b, i, none⟩ = c[i]? := by
    intro W1 b c T i hB hbt hh
    unfold World.cell?
    dsimp only
    rw [(hB.block b (lt_of_get hh) hbt), hh]
    simp
  refine callsIn_of_wp Try.func41 rfl trivial ?_ rfl
  simp only [Try.ntmps41, List.size_toArray, List.length_cons, List.length_nil, Nat.reduceAdd, Nat.reduceSub, Array.replicate_succ, Array.replicate_zero, List.push_toArray, List.append_toArray, List.nil_append, List.cons_append]
  have c10 : W.cell? ⟨b1, 0, none⟩ = some (.pointer (some ⟨g, 0, none⟩)) := cell (BelT.of hW) t1 h1
  gi_wp2_with (refine ⟨trivial, ?_⟩; gi_at_call 42; refine (callsIn_of (.inl rfl) ((ports_call W.heap g _ _ _ _ _ _ (hb W (BelT.of hW)).vt).out W rfl)).mono ?_; rintro e W1 ⟨_, rfl, hs1, hk1, rfl⟩)
  have hW1 : BelT t w.heap.size w W1 := BelT.of (hW.trans (below_of hs1 hk1 hW.size))
  have hJ1 : J [] W1 := hJ [] W W1 none h0 (grown_of hs1 hk1) (fun r e => by cases e)
  have hz : W.heap.size ≤ W1.heap.size := hk1.size
  gi_loopw [9] (fun i wr => ∃ k : Nat, k ≤ ps.length ∧ i = .int .i64 k ∧ J (outP T sts p v k) wr ∧ BelT t w.heap.size w wr ∧ W.heap.size ≤ wr.heap.size)
    (fun i _ => ps.length - (intOf i).toNat)
  case atStart => exact ⟨0, Nat.zero_le _, rfl, hJ1, hW1, hz⟩
  case round =>
    obtain ⟨k, hk, rfl, hJs, hnx, hzr⟩ := hrel
    have c2 : wr.cell? ⟨b2, 0, none⟩ = some (.int .i64 p) := cell hnx t2 h2
    have c3 : wr.cell? ⟨b3, 0, none⟩ = some (.int .i64 v) := cell hnx t3 h3
    have c10 : wr.cell? ⟨b1, 0, none⟩ = some (.pointer (some ⟨g, 0, none⟩)) := cell hnx t1 h1
    have c11 : wr.cell? ⟨b1, 1, none⟩ = some (.pointer (some ⟨gF, 0, none⟩)) := cell hnx t1 h1
    have c12 : wr.cell? ⟨b1, 2, none⟩ = some sS := cell hnx t1 h1
    by_cases hlt : k < ps.length
    · by_cases hp : (k : Int) = p
      · have eo : outP T sts p v (k + 1) = outP T sts p v k := by rw [outP_succ, if_neg (by rw [decide_eq_false (by omega), Bool.false_and]; decide), List.append_nil]
        gi_wp2
        refine ⟨trivial, ?_⟩
        gi_wp2
        refine ⟨fun _ h => (by cases h), ?_⟩
        gi_wp2
        go_roundw
        case rel => exact ⟨k + 1, by omega, by congr 1; omega, by rw [eo]; exact hJs, hnx, hzr⟩
        case measure => simp only [intOf]; omega
      · have hopen := (open_call wr.heap v k (hb wr hnx) hl hsm).out wr rfl
        have hX : opnR T sts v k = true ∨ opnR T sts v k = false := by cases opnR T sts v k <;> simp
        rcases hX with ho | ho
        · rw [ho] at hopen
          have eo : outP T sts p v (k + 1) = outP T sts p v k ++ [(k : Int)] := by rw [outP_succ, if_pos (by rw [ho, decide_eq_true (by omega)]; rfl)]
          gi_wp2_with (refine ⟨trivial, ?_⟩; gi_at_call 40; refine (callsIn_of (.inl rfl) hopen).mono ?_; clear hopen; rintro e W2 ⟨_, rfl, hs2, hk2, _, rfl⟩)
          have hJ2 : J (outP T sts p v k) W2 := hJ _ wr W2 none hJs (grown_of hs2 hk2) (fun r e => by cases e)
          have hnx2 : BelT t w.heap.size w W2 := hnx.trans (BelT.of (below_of hs2 hk2 hnx.size))
          have hz2 : wr.heap.size ≤ W2.heap.size := hk2.size
          obtain ⟨fn, tmps, assign, body, hy, hR⟩ := hY _ (k : Int) W2 hJ2 (Nat.lt_of_le_of_lt (outP_len _ _ _ _ _) hlt)
          gi_wp2
          rw [hy, Oper.uponIn_round]
          refine ⟨fun _ => hn, hR.mono ?_⟩
          rintro e W3 (⟨rfl, hJ3, hk3⟩ | ⟨rfl, hJx3⟩)
          · gi_wp2
            go_roundw
            case rel => exact ⟨k + 1, by omega, by congr 1, by rw [eo]; exact hJ3, hnx2.trans hk3, by have := hk3.size; omega⟩
            case measure => simp only [intOf]; omega
          · gi_wp2
            refine bodyPost_ret (results_none rfl _ _ _) rfl ?_
            exact ⟨⟨_, rfl⟩, .inr ⟨_, trivial, hJx3⟩⟩
        · rw [ho] at hopen
          have eo : outP T sts p v (k + 1) = outP T sts p v k := by rw [outP_succ, if_neg (by rw [ho, Bool.and_false]; decide), List.append_nil]
          gi_wp2_with (refine ⟨trivial, ?_⟩; gi_at_call 40; refine (callsIn_of (.inl rfl) hopen).mono ?_; clear hopen; rintro e W2 ⟨_, rfl, hs2, hk2, _, rfl⟩)
          have hJ2 : J (outP T sts p v k) W2 := hJ _ wr W2 none hJs (grown_of hs2 hk2) (fun r e => by cases e)
          have hnx2 : BelT t w.heap.size w W2 := hnx.trans (BelT.of (below_of hs2 hk2 hnx.size))
          have hz2 : wr.heap.size ≤ W2.heap.size := hk2.size
          refine ⟨fun _ h => (by cases h), ?_⟩
          gi_wp2
          go_roundw
          case rel => exact ⟨k + 1, by omega, by congr 1, by rw [eo]; exact hJ2, hnx2, by omega⟩
          case measure => simp only [intOf]; omega
    · obtain rfl : k = ps.length := by omega
      gi_wp2
      go_end0
      exact ⟨⟨_, rfl⟩, .inl ⟨_, rfl, hJs⟩⟩

theorem others_stops {g gF : Nat} {sS s0 s1 s2 s3 : Value} {ps : List VPort} {T : List VRow} {sts : List Int} (n : Nat) (hn : 1 ≤ n) (t b1 b2 b3 : Nat) (p v : Int) (w : World) (t1 : b1 ≠ t) (t2 : b2 ≠ t) (t3 : b3 ≠ t)
    (hb : ∀ W, BelT t w.heap.size w W → BrV W.heap g gF sS s0 s1 s2 s3 ps T sts) (hl : T.length ≤ 9223372036854775807) (hsm : SmallT T)
    (h1 : w.heap[b1]? = some (.cells (brg g gF sS).toArray 31 (0, 0))) (h2 : w.heap[b2]? = some (.cells ([.int .i64 p] : List Value).toArray 3 (0, 0))) (h3 : w.heap[b3]? = some (.cells ([.int .i64 v] : List Value).toArray 3 (0, 0)))
    (hps : ps.length ≤ 1000) :
    SeqStopsK Fence.wide n Try.prog 41 #[.pointer (some ⟨b1, 0, none⟩), .pointer (some ⟨b2, 0, none⟩), .pointer (some ⟨b3, 0, none⟩)] (fun x : Int => #[.int .i64 x]) (BelT t w.heap.size) (fun ys => ys = outP T sts p v ps.length) (fun _ => True) ps.length w :=
  fun l J Jx W hW hJ _ hY h0 => others1_in n hn t l b1 b2 b3 p v w t1 t2 t3 hb hl hsm h1 h2 h3 hps J Jx W hW hJ hY h0

end Go.Proofs.Ytcjilkemfmhkgaa
