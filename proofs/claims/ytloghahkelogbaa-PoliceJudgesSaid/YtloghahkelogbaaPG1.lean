import Derived.Test.YtloghahkelogbaaPJ1
import Derived.Test.YtloghahkelogbaaArgs
import Derived.Test.YtloghahkelogbaaGate6
namespace Go.Proofs.Ytloghahkelogbaa
open Go.Vc
set_option maxRecDepth 10000
set_option maxHeartbeats 8000000

/-! ### police: a world of gates, meters and rules -/

structure Cf where
  a : Int
  b : Int
  c : Int
  d : Int

def Cf.cells (x : Cf) : List Value := [.int .i64 x.a, .int .i64 x.b, .int .i64 x.c, .int .i64 x.d]

structure Wd where
  gl : Nat → Gl
  gs : Nat → Value
  gc : Nat → List Int
  gz : Nat → Value
  cf : Nat → Cf
  rl : Nat → Rul

def Wd.cells (w : Wd) : List Value := (w.gl 0).cells (w.gs 0) ++ ((w.gl 1).cells (w.gs 1) ++ ((w.gl 2).cells (w.gs 2) ++ ([w.gz 0] ++ ([w.gz 1] ++ ([w.gz 2] ++ ((w.cf 0).cells ++ ((w.cf 1).cells ++ ((w.cf 2).cells ++ ((w.rl 0).cells ++ ((w.rl 1).cells ++ ((w.rl 2).cells ++ (w.rl 3).cells)))))))))))

structure Wd.At (h : Heap) (w : Wd) : Prop where
  ents : ∀ i, i < 3 → EntsV h (w.gs i) (w.gl i).es
  ints : ∀ i, i < 3 → IntsV h (w.gz i) (w.gc i)
  el : ∀ i, i < 3 → (w.gl i).es.length ≤ 9223372036854775807
  cl : ∀ i, i < 3 → (w.gc i).length ≤ 9223372036854775807

theorem Wd.At.keep {h h' : Heap} {w : Wd} (x : w.At h) (k : Keep (fun _ => False) h h') : w.At h' := ⟨fun i hi => (x.ents i hi).keep k, fun i hi => RowsV.keep (x.ints i hi) k, x.el, x.cl⟩

theorem argOfAgg {h : Heap} {t : Nat} {xs : List Value} (hf : ∀ k, Fm EE h k t xs) (ha : ∀ y, EE.ty t = some y → y.agg = true) : Arg EE h t (.agg xs.toArray) :=
  ⟨fun k => hf k, fun _ _ _ => ⟨_, rfl⟩, fun y hy h => by rw [ha y hy] at h; cases h⟩

theorem argOfSlice {h : Heap} {t e : Nat} {xs : List Value} (hf : ∀ k, Fm EE h k t xs) (hy : EE.ty t = some ⟨.slice e, 1, 24, false, some (.slice none 0 0)⟩) (he : ∃ z, EE.ty e = some z) : ∃ v, xs = [v] ∧ Arg EE h t v := by
  obtain ⟨z, hz⟩ := he
  have hv : ∃ v : Value, xs = [v] ∧ v.cells = #[v] := by
    have h1 := hf 1
    unfold Fm at h1
    rw [hy] at h1
    dsimp only at h1
    rw [hz] at h1
    rcases h1 with e | ⟨a, len, cap, e, _⟩
    · exact ⟨_, e, rfl⟩
    · exact ⟨_, e, rfl⟩
  obtain ⟨v, rfl, hvc⟩ := hv
  refine ⟨v, rfl, ⟨fun k => by rw [hvc]; exact hf k, fun y hy' ha => ?_, fun y hy ha => hvc⟩⟩
  rw [hy] at hy'
  injection hy' with hy'
  subst hy'
  cases ha

theorem cutOff {α : Type} (l : List α) (n m : Nat) : l.drop n = (l.drop n).take m ++ l.drop (n + m) := by
  rw [← List.drop_drop, List.take_append_drop]

theorem cut2 {α : Type} (l : List α) (a b c d : Nat) (h : c + d ≤ b) : ((((l.drop a).take b).drop c).take d) = (l.drop (a + c)).take d := by
  rw [List.drop_take, List.drop_drop, List.take_take]
  congr 1
  omega

theorem arg_cf {h : Heap} {xs : List Value} (f : ∀ k, Fm EE h k 29 xs) : ∃ x : Cf, xs = x.cells := by
  obtain ⟨hl, hf⟩ : xs.length = 4 ∧ ∀ f ∈ ([⟨ "Rate", 2, 0, false, "", "", 0⟩, ⟨ "Burst", 2, 1, false, "", "", 8⟩, ⟨ "Excess", 2, 2, false, "", "", 16⟩, ⟨ "Surplus", 2, 3, false, "", "", 24⟩] : List Field), match EE.ty f.type with
      | none => True
      | some z => Fm EE h 3 f.type ((xs.drop f.offset).take z.size) := f 4
  obtain ⟨n0, e0, _⟩ := fm_i64 (k := 2) (cs := (xs.drop 0).take 1) (hf ⟨ "Rate", 2, 0, false, "", "", 0⟩ (by simp))
  obtain ⟨n1, e1, _⟩ := fm_i64 (k := 2) (cs := (xs.drop 1).take 1) (hf ⟨ "Burst", 2, 1, false, "", "", 8⟩ (by simp))
  obtain ⟨n2, e2, _⟩ := fm_i64 (k := 2) (cs := (xs.drop 2).take 1) (hf ⟨ "Excess", 2, 2, false, "", "", 16⟩ (by simp))
  obtain ⟨n3, e3, _⟩ := fm_i64 (k := 2) (cs := (xs.drop 3).take 1) (hf ⟨ "Surplus", 2, 3, false, "", "", 24⟩ (by simp))
  refine ⟨⟨n0, n1, n2, n3⟩, ?_⟩
  match xs, hl with
  | [c0, c1, c2, c3], _ =>
    simp at e0 e1 e2 e3
    simp [Cf.cells, e0, e1, e2, e3]

theorem arg_rul {h : Heap} {xs : List Value} (f : ∀ k, Fm EE h k 32 xs) : ∃ x : Rul, xs = x.cells := by
  obtain ⟨hl, hf⟩ : xs.length = 3 ∧ ∀ f ∈ ([⟨ "Most", 3, 0, false, "", "", 0⟩, ⟨ "Gate", 3, 1, false, "", "", 8⟩, ⟨ "Meter", 3, 2, false, "", "", 16⟩] : List Field), match EE.ty f.type with
      | none => True
      | some z => Fm EE h 3 f.type ((xs.drop f.offset).take z.size) := f 4
  obtain ⟨n0, e0, _⟩ := fm_int (k := 2) (cs := (xs.drop 0).take 1) (hf ⟨ "Most", 3, 0, false, "", "", 0⟩ (by simp))
  obtain ⟨n1, e1, _⟩ := fm_int (k := 2) (cs := (xs.drop 1).take 1) (hf ⟨ "Gate", 3, 1, false, "", "", 8⟩ (by simp))
  obtain ⟨n2, e2, _⟩ := fm_int (k := 2) (cs := (xs.drop 2).take 1) (hf ⟨ "Meter", 3, 2, false, "", "", 16⟩ (by simp))
  refine ⟨⟨n0, n1, n2⟩, ?_⟩
  match xs, hl with
  | [c0, c1, c2], _ =>
    simp at e0 e1 e2
    simp [Rul.cells, e0, e1, e2]

theorem argints {h : Heap} {v : Value} (a : Arg EE h 26 v) : ∃ ns : List Int, IntsV h v ns ∧ ns.length ≤ 9223372036854775807 := by
  obtain ⟨A, n, cap, rfl, h1, h2, h3⟩ := a.slice (e := 3) (z := ⟨.int .i64, 1, 8, false, some (.int .i64 0)⟩) rfl rfl rfl rfl (by decide)
  have h4 : ∀ i, i < n → ∃ p : Int, Elem h A (i * 1) 1 (cI p) := by
    intro i hi
    obtain ⟨cs, he, hf⟩ := h3 3 i hi
    obtain ⟨p, rfl, r1, r2⟩ := fm_int (k := 2) hf
    exact ⟨p, he⟩
  obtain ⟨L, hl, hL⟩ := pick_at n h4
  subst hl
  have hm : maxLen ≤ 9223372036854775807 := by decide
  exact ⟨L, ⟨A, cap, rfl, h1, hL⟩, by omega⟩

theorem arg_world {h : Heap} {v : Value} (a : Arg EE h 35 v) : ∃ w : Wd, v = .agg w.cells.toArray ∧ w.At h := by
  obtain ⟨cs, rfl⟩ := a.agg _ rfl rfl
  have hf : ∀ k, cs.toList.length = 39 ∧ ∀ f ∈ ([⟨ "Gates", 25, 0, false, "", "", 0⟩, ⟨ "Classes", 27, 12, false, "", "", 144⟩, ⟨ "Meters", 30, 15, false, "", "", 216⟩, ⟨ "Rules", 33, 27, false, "", "", 312⟩] : List Field), match EE.ty f.type with
      | none => True
      | some z => Fm EE h k f.type ((cs.toList.drop f.offset).take z.size) := fun k => a.fm (k + 1)
  have hcs : cs = cs.toList.toArray := by rw [Array.toArray_toList]
  rw [hcs]
  generalize cs.toList = l at hf
  have hl := (hf 0).1
  have g0 : ∀ i, i < 3 → ∀ k, Fm EE h k 24 ((l.drop (0 + i * 4)).take 4) := fun i hi k => by
    have x : ((l.drop 0).take 12).length = 12 ∧ ∀ i, i < 3 → Fm EE h k 24 ((((l.drop 0).take 12).drop (i * 4)).take 4) := (hf (k + 1)).2 ⟨ "Gates", 25, 0, false, "", "", 0⟩ (by simp)
    have := x.2 i hi
    rwa [cut2 _ _ _ _ _ (by omega)] at this
  have g1 : ∀ i, i < 3 → ∀ k, Fm EE h k 26 ((l.drop (12 + i * 1)).take 1) := fun i hi k => by
    have x : ((l.drop 12).take 3).length = 3 ∧ ∀ i, i < 3 → Fm EE h k 26 ((((l.drop 12).take 3).drop (i * 1)).take 1) := (hf (k + 1)).2 ⟨ "Classes", 27, 12, false, "", "", 144⟩ (by simp)
    have := x.2 i hi
    rwa [cut2 _ _ _ _ _ (by omega)] at this
  have g2 : ∀ i, i < 3 → ∀ k, Fm EE h k 29 ((l.drop (15 + i * 4)).take 4) := fun i hi k => by
    have x : ((l.drop 15).take 12).length = 12 ∧ ∀ i, i < 3 → Fm EE h k 29 ((((l.drop 15).take 12).drop (i * 4)).take 4) := (hf (k + 1)).2 ⟨ "Meters", 30, 15, false, "", "", 216⟩ (by simp)
    have := x.2 i hi
    rwa [cut2 _ _ _ _ _ (by omega)] at this
  have g3 : ∀ i, i < 4 → ∀ k, Fm EE h k 32 ((l.drop (27 + i * 3)).take 3) := fun i hi k => by
    have x : ((l.drop 27).take 12).length = 12 ∧ ∀ i, i < 4 → Fm EE h k 32 ((((l.drop 27).take 12).drop (i * 3)).take 3) := (hf (k + 1)).2 ⟨ "Rules", 33, 27, false, "", "", 312⟩ (by simp)
    have := x.2 i hi
    rwa [cut2 _ _ _ _ _ (by omega)] at this
  have q0 : ∀ i, i < 3 → ∃ (p : Gl × Value), (l.drop (0 + i * 4)).take 4 = p.1.cells p.2 ∧ EntsV h p.2 p.1.es ∧ p.1.es.length ≤ 9223372036854775807 := fun i hi => by
    obtain ⟨l1, s1, e, hx, hn, _⟩ := arg_list (argOfAgg (g0 i hi) (fun y hy => by
      have e : EE.ty 24 = some y := hy
      injection e with e
      rw [← e]))
    refine ⟨(l1, s1), ?_, hx, hn⟩
    injection e with e
    simpa using congrArg Array.toList e
  have q1 : ∀ i, i < 3 → ∃ (p : List Int × Value), (l.drop (12 + i * 1)).take 1 = [p.2] ∧ IntsV h p.2 p.1 ∧ p.1.length ≤ 9223372036854775807 := fun i hi => by
    obtain ⟨v, e, av⟩ := argOfSlice (g1 i hi) rfl ⟨_, rfl⟩
    obtain ⟨ns, hx, hn⟩ := argints av
    exact ⟨(ns, v), e, hx, hn⟩
  have q2 := fun i hi => arg_cf (g2 i hi)
  have q3 := fun i hi => arg_rul (g3 i hi)
  obtain ⟨p0, a0, b0⟩ := q0 0 (by omega)
  obtain ⟨p1, a1, b1⟩ := q0 1 (by omega)
  obtain ⟨p2, a2, b2⟩ := q0 2 (by omega)
  obtain ⟨p3, a3, b3⟩ := q1 0 (by omega)
  obtain ⟨p4, a4, b4⟩ := q1 1 (by omega)
  obtain ⟨p5, a5, b5⟩ := q1 2 (by omega)
  obtain ⟨m0, a6⟩ := q2 0 (by omega)
  obtain ⟨m1, a7⟩ := q2 1 (by omega)
  obtain ⟨m2, a8⟩ := q2 2 (by omega)
  obtain ⟨r0, a9⟩ := q3 0 (by omega)
  obtain ⟨r1, a10⟩ := q3 1 (by omega)
  obtain ⟨r2, a11⟩ := q3 2 (by omega)
  obtain ⟨r3, a12⟩ := q3 3 (by omega)
  refine ⟨⟨fun | 0 => p0.1 | 1 => p1.1 | _ => p2.1, fun | 0 => p0.2 | 1 => p1.2 | _ => p2.2, fun | 0 => p3.1 | 1 => p4.1 | _ => p5.1, fun | 0 => p3.2 | 1 => p4.2 | _ => p5.2, fun | 0 => m0 | 1 => m1 | _ => m2, fun | 0 => r0 | 1 => r1 | 2 => r2 | _ => r3⟩, ?_, ⟨?_, ?_, ?_, ?_⟩⟩
  · congr 2
    show l = p0.1.cells p0.2 ++ (p1.1.cells p1.2 ++ (p2.1.cells p2.2 ++ ([p3.2] ++ ([p4.2] ++ ([p5.2] ++ (m0.cells ++ (m1.cells ++ (m2.cells ++ (r0.cells ++ (r1.cells ++ (r2.cells ++ r3.cells)))))))))))
    rw [← a0, ← a1, ← a2, ← a3, ← a4, ← a5, ← a6, ← a7, ← a8, ← a9, ← a10, ← a11, ← a12]
    exact (cutOff l 0 4).trans (congrArg ((l.drop 0).take 4 ++ ·) ((cutOff l 4 4).trans (congrArg ((l.drop 4).take 4 ++ ·) ((cutOff l 8 4).trans (congrArg ((l.drop 8).take 4 ++ ·) ((cutOff l 12 1).trans (congrArg ((l.drop 12).take 1 ++ ·) ((cutOff l 13 1).trans (congrArg ((l.drop 13).take 1 ++ ·) ((cutOff l 14 1).trans (congrArg ((l.drop 14).take 1 ++ ·) ((cutOff l 15 4).trans (congrArg ((l.drop 15).take 4 ++ ·) ((cutOff l 19 4).trans (congrArg ((l.drop 19).take 4 ++ ·) ((cutOff l 23 4).trans (congrArg ((l.drop 23).take 4 ++ ·) ((cutOff l 27 3).trans (congrArg ((l.drop 27).take 3 ++ ·) ((cutOff l 30 3).trans (congrArg ((l.drop 30).take 3 ++ ·) ((cutOff l 33 3).trans (congrArg ((l.drop 33).take 3 ++ ·) (show l.drop 36 = (l.drop 36).take 3 by rw [List.take_of_length_le (by rw [List.length_drop, hl]; omega)]))))))))))))))))))))))))

  · intro i hi
    rcases (by omega : i = 0 ∨ i = 1 ∨ i = 2) with rfl | rfl | rfl
    · exact b0.1
    · exact b1.1
    · exact b2.1
  · intro i hi
    rcases (by omega : i = 0 ∨ i = 1 ∨ i = 2) with rfl | rfl | rfl
    · exact b3.1
    · exact b4.1
    · exact b5.1
  · intro i hi
    rcases (by omega : i = 0 ∨ i = 1 ∨ i = 2) with rfl | rfl | rfl
    · exact b0.2
    · exact b1.2
    · exact b2.2
  · intro i hi
    rcases (by omega : i = 0 ∨ i = 1 ∨ i = 2) with rfl | rfl | rfl
    · exact b3.2
    · exact b4.2
    · exact b5.2

end Go.Proofs.Ytloghahkelogbaa
