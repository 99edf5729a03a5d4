import Derived.Test.YtloghahkelogbaaPG1
namespace Go.Proofs.Ytloghahkelogbaa
open Go.Vc
set_option maxRecDepth 10000
set_option maxHeartbeats 8000000

/-! ### police: the frames, and what the document says of a gate -/

structure Frm where
  later : Int
  dst : UInt8
  bytes : Int
  cls : Int
  dei : Bool

def Frm.cells (f : Frm) : List Value := [.int .i64 f.later, .int .u8 f.dst.toNat, .int .i64 f.bytes, .int .i64 f.cls, .bool f.dei]

theorem arg_frames {h : Heap} {v : Value} (a : Arg EE h 36 v) : ∃ fs : List Frm, RowsV Frm.cells 5 h v fs ∧ fs.length ≤ 9223372036854775807 ∧ ∀ x ∈ fs, -9223372036854775808 ≤ x.later ∧ x.later ≤ 9223372036854775807 := by
  obtain ⟨A, n, cap, rfl, h1, h2, h3⟩ := a.slice (e := 65) rfl rfl rfl rfl (by decide)
  have h4 : ∀ i, i < n → ∃ x : Frm, Elem h A (i * 5) 5 x.cells ∧ -9223372036854775808 ≤ x.later ∧ x.later ≤ 9223372036854775807 := by
    intro i hi
    obtain ⟨cs, he, hf⟩ := h3 3 i hi
    obtain ⟨hl, hf⟩ : cs.length = 5 ∧ ∀ f ∈ ([⟨ "Later", 2, 0, false, "", "", 0⟩, ⟨ "Dst", 5, 1, false, "", "", 8⟩, ⟨ "Bytes", 3, 2, false, "", "", 16⟩, ⟨ "Class", 3, 3, false, "", "", 24⟩, ⟨ "Dei", 4, 4, false, "", "", 32⟩] : List Field), match EE.ty f.type with
      | none => True
      | some z => Fm EE h 2 f.type ((cs.drop f.offset).take z.size) := hf
    obtain ⟨n0, e0, r0⟩ := fm_i64 (k := 1) (cs := (cs.drop 0).take 1) (hf ⟨ "Later", 2, 0, false, "", "", 0⟩ (by simp))
    obtain ⟨n1, e1⟩ := fm_u8 (k := 1) (cs := (cs.drop 1).take 1) (hf ⟨ "Dst", 5, 1, false, "", "", 8⟩ (by simp))
    obtain ⟨n2, e2, _⟩ := fm_int (k := 1) (cs := (cs.drop 2).take 1) (hf ⟨ "Bytes", 3, 2, false, "", "", 16⟩ (by simp))
    obtain ⟨n3, e3, _⟩ := fm_int (k := 1) (cs := (cs.drop 3).take 1) (hf ⟨ "Class", 3, 3, false, "", "", 24⟩ (by simp))
    obtain ⟨b4, e4⟩ := fm_bool (k := 1) (cs := (cs.drop 4).take 1) (hf ⟨ "Dei", 4, 4, false, "", "", 32⟩ (by simp))
    refine ⟨⟨n0, n1, n2, n3, b4⟩, ?_, r0⟩
    match cs, hl with
    | [c0, c1, c2, c3, c4], _ =>
      simp at e0 e1 e2 e3 e4
      simp only [Frm.cells]
      rw [e0, e1, e2, e3, e4] at he
      exact he
  obtain ⟨L, hl, hL⟩ := pick_at n h4
  have hm : maxLen ≤ 9223372036854775807 := by decide
  refine ⟨L, ⟨A, cap, by rw [hl], by omega, fun i x hx => (hL i x hx).1⟩, by omega, fun x hx => ?_⟩
  obtain ⟨i, hi⟩ := List.getElem?_of_mem hx
  exact (hL i x hi).2

theorem vseek_ix {es : List Ent} {into : Int} (hp : Pos es) : ∀ (f i : Nat), es.length - i ≤ f → i < es.length → pre es i ≤ into → IsIx es into (vseek es into f i)
  | 0, i, h, hi, _ => by omega
  | f + 1, i, h, hi, hle => by
    rw [vseek]
    split
    · rename_i c
      exact vseek_ix hp f (i + 1) (by omega) c.2 c.1
    · rename_i c
      refine ⟨hi, hle, fun j h1 h2 => ?_⟩
      have := pre_mono hp (show i + 1 ≤ j by omega)
      omega

theorem vix_at {l : Gl} (ok : l.Ok) (t : Int) : vix l.es (l.into t) = (l.at t).1 :=
  (vseek_ix ok.pos _ 0 (by omega) (by have := ok.n1; omega) (by rw [pre_zero]; exact (ok.into t).1)).unique (ok.at t).1

/-- The class that a list tells at a time. -/
def clsF (l : Gl) (cs : List Int) (t : Int) : Int := if t < l.base then -1 else (cs[(l.at t).1]?).getD (-1)
def opnF (l : Gl) (t : Int) : Bool := bAnd .i64 (l.state t) 1 == 1

theorem vlv_at (v : Vlv) (ok : v.l.Ok) (hc : v.cs.length = v.l.es.length) (t : Int) : v.at t = (opnF v.l t, clsF v.l v.cs t) := by
  have hlt := (ok.at t).1.lt
  obtain ⟨x, hx⟩ := list_at hlt
  obtain ⟨c, hcx⟩ := list_at (show (v.l.at t).1 < v.cs.length by omega)
  unfold Vlv.at opnF clsF Gl.state
  rw [vix_at ok]
  split
  · rfl
  · unfold Gl.opens
    rw [hx, hcx]
    rfl

theorem open_call (h0 : Heap) (w : Wd) (i : Nat) (t : Int) (hw : w.At h0) (hi : i < 3) (ok : (w.gl i).Ok) (ht : 0 ≤ t ∧ t ≤ 9000000000000000000) :
    CallK Try.prog 14 #[.agg w.cells.toArray, .int .i64 (i : Nat), .int .i64 t] h0 fun v h' => Keep (fun _ => False) h0 h' ∧ v = .bool (opnF (w.gl i) t) := by
  refine CallK.of_vc EW_ok [0, 1, 2, 3, 6] Try.func14 rfl (Nat.le_of_ble_eq_true rfl) ?_
  have H := Hp.start h0
  conv => whnf
  intro g h1 N
  replace H := H.new N
  clear N
  rcases (by omega : i = 0 ∨ i = 1 ∨ i = 2) with rfl | rfl | rfl

  · conv => whnf
    repeat ((first | refine cnd_intro (by first | (simp; done) | (simp; omega) | omega | (simp only [Bool.and_eq_true, decide_eq_true_eq]; omega)) ?_ | refine Hp.ld H 0 rfl rfl ?_ | refine Hp.ld H 1 rfl rfl ?_ | refine Hp.ld H 2 rfl rfl ?_ | refine Hp.ld H 3 rfl rfl ?_ | refine Hp.ld H 4 rfl rfl ?_ | refine Hp.ld H 5 rfl rfl ?_ | (refine Hp.st H 0 rfl rfl rfl rfl rfl ?_; intro h H) | (refine Hp.st H 1 rfl rfl rfl rfl rfl ?_; intro h H) | (refine Hp.st H 2 rfl rfl rfl rfl rfl ?_; intro h H) | (refine Hp.st H 3 rfl rfl rfl rfl rfl ?_; intro h H) | (refine Hp.st H 4 rfl rfl rfl rfl rfl ?_; intro h H) | (refine Hp.st H 5 rfl rfl rfl rfl rfl ?_; intro h H) | (intro b h N; replace H := Hp.new H N; clear N) | refine Drawn.mk (by kernel_rfl) ?_ | refine FillK.row rfl ?_ | refine FillK.lit rfl ?_ | refine WrapK.i64 (by omega) (by omega) ?_ | refine WrapK.u64 (by omega) (by omega) ?_ | refine WrapK.u32 (by omega) (by omega) ?_ | refine WrapK.u8 (by omega) (by omega) ?_ | refine iteT (by omega) ?_ | refine iteF (by omega) ?_ | refine iteET (by omega) ?_ | refine iteEF (by omega) ?_ | refine iteNT (by omega) ?_ | refine iteNF (by omega) ?_); conv => whnf)
    refine CallK.mono (refState_call _ (w.gl 0) (w.gs 0) t (EntsV.keep (hw.ents 0 (by omega)) H.keep) ok ht) ?_
    rintro _ h2 ⟨k2, rfl⟩
    replace H := H.and k2
    conv => whnf
    repeat ((first | refine cnd_intro (by first | (simp; done) | (simp; omega) | omega | (simp only [Bool.and_eq_true, decide_eq_true_eq]; omega)) ?_ | refine Hp.ld H 0 rfl rfl ?_ | refine Hp.ld H 1 rfl rfl ?_ | refine Hp.ld H 2 rfl rfl ?_ | refine Hp.ld H 3 rfl rfl ?_ | refine Hp.ld H 4 rfl rfl ?_ | refine Hp.ld H 5 rfl rfl ?_ | (refine Hp.st H 0 rfl rfl rfl rfl rfl ?_; intro h H) | (refine Hp.st H 1 rfl rfl rfl rfl rfl ?_; intro h H) | (refine Hp.st H 2 rfl rfl rfl rfl rfl ?_; intro h H) | (refine Hp.st H 3 rfl rfl rfl rfl rfl ?_; intro h H) | (refine Hp.st H 4 rfl rfl rfl rfl rfl ?_; intro h H) | (refine Hp.st H 5 rfl rfl rfl rfl rfl ?_; intro h H) | (intro b h N; replace H := Hp.new H N; clear N) | refine Drawn.mk (by kernel_rfl) ?_ | refine FillK.row rfl ?_ | refine FillK.lit rfl ?_ | refine WrapK.i64 (by omega) (by omega) ?_ | refine WrapK.u64 (by omega) (by omega) ?_ | refine WrapK.u32 (by omega) (by omega) ?_ | refine WrapK.u8 (by omega) (by omega) ?_ | refine iteT (by omega) ?_ | refine iteF (by omega) ?_ | refine iteET (by omega) ?_ | refine iteEF (by omega) ?_ | refine iteNT (by omega) ?_ | refine iteNF (by omega) ?_); conv => whnf)
    exact ⟨H.keep, rfl⟩

  · conv => whnf
    repeat ((first | refine cnd_intro (by first | (simp; done) | (simp; omega) | omega | (simp only [Bool.and_eq_true, decide_eq_true_eq]; omega)) ?_ | refine Hp.ld H 0 rfl rfl ?_ | refine Hp.ld H 1 rfl rfl ?_ | refine Hp.ld H 2 rfl rfl ?_ | refine Hp.ld H 3 rfl rfl ?_ | refine Hp.ld H 4 rfl rfl ?_ | refine Hp.ld H 5 rfl rfl ?_ | (refine Hp.st H 0 rfl rfl rfl rfl rfl ?_; intro h H) | (refine Hp.st H 1 rfl rfl rfl rfl rfl ?_; intro h H) | (refine Hp.st H 2 rfl rfl rfl rfl rfl ?_; intro h H) | (refine Hp.st H 3 rfl rfl rfl rfl rfl ?_; intro h H) | (refine Hp.st H 4 rfl rfl rfl rfl rfl ?_; intro h H) | (refine Hp.st H 5 rfl rfl rfl rfl rfl ?_; intro h H) | (intro b h N; replace H := Hp.new H N; clear N) | refine Drawn.mk (by kernel_rfl) ?_ | refine FillK.row rfl ?_ | refine FillK.lit rfl ?_ | refine WrapK.i64 (by omega) (by omega) ?_ | refine WrapK.u64 (by omega) (by omega) ?_ | refine WrapK.u32 (by omega) (by omega) ?_ | refine WrapK.u8 (by omega) (by omega) ?_ | refine iteT (by omega) ?_ | refine iteF (by omega) ?_ | refine iteET (by omega) ?_ | refine iteEF (by omega) ?_ | refine iteNT (by omega) ?_ | refine iteNF (by omega) ?_); conv => whnf)
    refine CallK.mono (refState_call _ (w.gl 1) (w.gs 1) t (EntsV.keep (hw.ents 1 (by omega)) H.keep) ok ht) ?_
    rintro _ h2 ⟨k2, rfl⟩
    replace H := H.and k2
    conv => whnf
    repeat ((first | refine cnd_intro (by first | (simp; done) | (simp; omega) | omega | (simp only [Bool.and_eq_true, decide_eq_true_eq]; omega)) ?_ | refine Hp.ld H 0 rfl rfl ?_ | refine Hp.ld H 1 rfl rfl ?_ | refine Hp.ld H 2 rfl rfl ?_ | refine Hp.ld H 3 rfl rfl ?_ | refine Hp.ld H 4 rfl rfl ?_ | refine Hp.ld H 5 rfl rfl ?_ | (refine Hp.st H 0 rfl rfl rfl rfl rfl ?_; intro h H) | (refine Hp.st H 1 rfl rfl rfl rfl rfl ?_; intro h H) | (refine Hp.st H 2 rfl rfl rfl rfl rfl ?_; intro h H) | (refine Hp.st H 3 rfl rfl rfl rfl rfl ?_; intro h H) | (refine Hp.st H 4 rfl rfl rfl rfl rfl ?_; intro h H) | (refine Hp.st H 5 rfl rfl rfl rfl rfl ?_; intro h H) | (intro b h N; replace H := Hp.new H N; clear N) | refine Drawn.mk (by kernel_rfl) ?_ | refine FillK.row rfl ?_ | refine FillK.lit rfl ?_ | refine WrapK.i64 (by omega) (by omega) ?_ | refine WrapK.u64 (by omega) (by omega) ?_ | refine WrapK.u32 (by omega) (by omega) ?_ | refine WrapK.u8 (by omega) (by omega) ?_ | refine iteT (by omega) ?_ | refine iteF (by omega) ?_ | refine iteET (by omega) ?_ | refine iteEF (by omega) ?_ | refine iteNT (by omega) ?_ | refine iteNF (by omega) ?_); conv => whnf)
    exact ⟨H.keep, rfl⟩

  · conv => whnf
    repeat ((first | refine cnd_intro (by first | (simp; done) | (simp; omega) | omega | (simp only [Bool.and_eq_true, decide_eq_true_eq]; omega)) ?_ | refine Hp.ld H 0 rfl rfl ?_ | refine Hp.ld H 1 rfl rfl ?_ | refine Hp.ld H 2 rfl rfl ?_ | refine Hp.ld H 3 rfl rfl ?_ | refine Hp.ld H 4 rfl rfl ?_ | refine Hp.ld H 5 rfl rfl ?_ | (refine Hp.st H 0 rfl rfl rfl rfl rfl ?_; intro h H) | (refine Hp.st H 1 rfl rfl rfl rfl rfl ?_; intro h H) | (refine Hp.st H 2 rfl rfl rfl rfl rfl ?_; intro h H) | (refine Hp.st H 3 rfl rfl rfl rfl rfl ?_; intro h H) | (refine Hp.st H 4 rfl rfl rfl rfl rfl ?_; intro h H) | (refine Hp.st H 5 rfl rfl rfl rfl rfl ?_; intro h H) | (intro b h N; replace H := Hp.new H N; clear N) | refine Drawn.mk (by kernel_rfl) ?_ | refine FillK.row rfl ?_ | refine FillK.lit rfl ?_ | refine WrapK.i64 (by omega) (by omega) ?_ | refine WrapK.u64 (by omega) (by omega) ?_ | refine WrapK.u32 (by omega) (by omega) ?_ | refine WrapK.u8 (by omega) (by omega) ?_ | refine iteT (by omega) ?_ | refine iteF (by omega) ?_ | refine iteET (by omega) ?_ | refine iteEF (by omega) ?_ | refine iteNT (by omega) ?_ | refine iteNF (by omega) ?_); conv => whnf)
    refine CallK.mono (refState_call _ (w.gl 2) (w.gs 2) t (EntsV.keep (hw.ents 2 (by omega)) H.keep) ok ht) ?_
    rintro _ h2 ⟨k2, rfl⟩
    replace H := H.and k2
    conv => whnf
    repeat ((first | refine cnd_intro (by first | (simp; done) | (simp; omega) | omega | (simp only [Bool.and_eq_true, decide_eq_true_eq]; omega)) ?_ | refine Hp.ld H 0 rfl rfl ?_ | refine Hp.ld H 1 rfl rfl ?_ | refine Hp.ld H 2 rfl rfl ?_ | refine Hp.ld H 3 rfl rfl ?_ | refine Hp.ld H 4 rfl rfl ?_ | refine Hp.ld H 5 rfl rfl ?_ | (refine Hp.st H 0 rfl rfl rfl rfl rfl ?_; intro h H) | (refine Hp.st H 1 rfl rfl rfl rfl rfl ?_; intro h H) | (refine Hp.st H 2 rfl rfl rfl rfl rfl ?_; intro h H) | (refine Hp.st H 3 rfl rfl rfl rfl rfl ?_; intro h H) | (refine Hp.st H 4 rfl rfl rfl rfl rfl ?_; intro h H) | (refine Hp.st H 5 rfl rfl rfl rfl rfl ?_; intro h H) | (intro b h N; replace H := Hp.new H N; clear N) | refine Drawn.mk (by kernel_rfl) ?_ | refine FillK.row rfl ?_ | refine FillK.lit rfl ?_ | refine WrapK.i64 (by omega) (by omega) ?_ | refine WrapK.u64 (by omega) (by omega) ?_ | refine WrapK.u32 (by omega) (by omega) ?_ | refine WrapK.u8 (by omega) (by omega) ?_ | refine iteT (by omega) ?_ | refine iteF (by omega) ?_ | refine iteET (by omega) ?_ | refine iteEF (by omega) ?_ | refine iteNT (by omega) ?_ | refine iteNF (by omega) ?_); conv => whnf)
    exact ⟨H.keep, rfl⟩


end Go.Proofs.Ytloghahkelogbaa
