import Derived.Test.YtloghahkelogbaaGate3
import Derived.Test.YtloghahkelogbaaHd
namespace Go.Proofs.Ytloghahkelogbaa
open Go.Vc
set_option maxRecDepth 10000
set_option maxHeartbeats 4000000

/-! ### gate: a copy, and the head of the laws -/

theorem slice_nil_run {E : Env} (hE : E.Ok) {t e d : Nat} {y : Ty} {a : Option Addr} {n c : Nat} (hy : E.ty t = some y) (hd : y.desc = .slice e) (w : World) :
    (Op.equalIn (d + 1) t (.slice a n c) (.slice none 0 0)).run E.P w = .ok a.isNone w := by
  cases a <;> simp [Op.equalIn, hE.underlying hy, hd]

theorem EqK.slice_nil {E : Env} (hE : E.Ok) {t e : Nat} {y : Ty} {a : Option Addr} {n c : Nat} {K : Bool → Prop} (hy : E.ty t = some y) (hd : y.desc = .slice e) (k : K a.isNone) : EqK E.P t (.slice a n c) (.slice none 0 0) K :=
  ⟨a.isNone, ⟨fun w => slice_nil_run hE (d := 9999) hy hd w, fun op ox oy w => by cases op <;> simp [eqGuard]⟩, k⟩

theorem EntsV.row {h : Heap} {A : Option Addr} {n c : Nat} {es : List Ent} (x : EntsV h (.slice A n c) es) : Row h A (es.flatMap Ent.cells) := by
  refine Row.of_elems fun j v hj => ?_
  have hf : ∀ y : Ent, y.cells.length = 2 := fun _ => rfl
  have hl := flat_length hf es
  have hjl : j < (es.flatMap Ent.cells).length := by
    rcases Nat.lt_or_ge j (es.flatMap Ent.cells).length with h | h
    · exact h
    · rw [List.getElem?_eq_none h] at hj; cases hj
  obtain ⟨y, hy⟩ := list_at (L := es) (i := j / 2) (by omega)
  have hat := flat_at hf hy
  have hv : y.cells[j % 2]? = Option.some v := by
    rw [← hat, List.getElem?_take, if_pos (by omega), List.getElem?_drop, show j / 2 * 2 + j % 2 = j by omega]
    exact hj
  have e := x.at_ hy
  refine e.sub (j := j % 2) (m := 1) (by omega) (by omega) ?_
  rcases (by omega : j % 2 = 0 ∨ j % 2 = 1) with h | h
  · rw [h] at hv ⊢
    simp only [Ent.cells, List.getElem?_cons_zero, Option.some.injEq] at hv
    rw [← hv]
    rfl
  · rw [h] at hv ⊢
    simp only [Ent.cells, List.getElem?_cons_succ, List.getElem?_cons_zero, Option.some.injEq] at hv
    rw [← hv]
    rfl

theorem gsclone_call (h0 : Heap) (s : Value) (es : List Ent) (hs : EntsV h0 s es) (hl : es.length ≤ 1000) :
    CallK Try.prog 37 #[s] h0 fun v h' => Keep (fun _ => False) h0 h' ∧ OwnS h0.size h' 81 2 v es.length (es.flatMap Ent.cells) := by
  obtain ⟨A, c, rfl, hc, _⟩ := hs.out
  refine CallK.of_vc EW_ok [0, 2, 4] Try.func37 rfl (Nat.le_of_ble_eq_true rfl) ?_
  have H := Hp.start h0
  conv => whnf
  repeat ((first | refine cnd_intro (by first | (simp; done) | (simp; omega) | omega | (simp only [Bool.and_eq_true, decide_eq_true_eq]; omega)) ?_ | refine Hp.ld H 0 rfl rfl ?_ | refine Hp.ld H 1 rfl rfl ?_ | refine Hp.ld H 2 rfl rfl ?_ | refine Hp.ld H 3 rfl rfl ?_ | refine Hp.ld H 4 rfl rfl ?_ | refine Hp.ld H 5 rfl rfl ?_ | (refine Hp.st H 0 rfl rfl rfl rfl rfl ?_; intro h H) | (refine Hp.st H 1 rfl rfl rfl rfl rfl ?_; intro h H) | (refine Hp.st H 2 rfl rfl rfl rfl rfl ?_; intro h H) | (refine Hp.st H 3 rfl rfl rfl rfl rfl ?_; intro h H) | (refine Hp.st H 4 rfl rfl rfl rfl rfl ?_; intro h H) | (refine Hp.st H 5 rfl rfl rfl rfl rfl ?_; intro h H) | (intro b h N; replace H := Hp.new H N; clear N) | refine Drawn.mk (by kernel_rfl) ?_ | refine FillK.row rfl ?_ | refine FillK.lit rfl ?_ | refine WrapK.i64 (by omega) (by omega) ?_ | refine WrapK.u64 (by omega) (by omega) ?_ | refine WrapK.u32 (by omega) (by omega) ?_ | refine WrapK.u8 (by omega) (by omega) ?_ | refine iteT (by omega) ?_ | refine iteF (by omega) ?_ | refine iteET (by omega) ?_ | refine iteEF (by omega) ?_ | refine iteNT (by omega) ?_ | refine iteNF (by omega) ?_); conv => whnf)
  refine EqK.slice_nil EW_ok rfl rfl ?_
  cases A with
  | none =>
    have he : es = [] := by
      rcases Nat.eq_zero_or_pos es.length with h | h
      · exact List.eq_nil_of_length_eq_zero h
      · obtain ⟨b, o, e⟩ := hs.some h
        cases e
    subst he
    conv => whnf
    repeat ((first | refine cnd_intro (by first | (simp; done) | (simp; omega) | omega | (simp only [Bool.and_eq_true, decide_eq_true_eq]; omega)) ?_ | refine Hp.ld H 0 rfl rfl ?_ | refine Hp.ld H 1 rfl rfl ?_ | refine Hp.ld H 2 rfl rfl ?_ | refine Hp.ld H 3 rfl rfl ?_ | refine Hp.ld H 4 rfl rfl ?_ | refine Hp.ld H 5 rfl rfl ?_ | (refine Hp.st H 0 rfl rfl rfl rfl rfl ?_; intro h H) | (refine Hp.st H 1 rfl rfl rfl rfl rfl ?_; intro h H) | (refine Hp.st H 2 rfl rfl rfl rfl rfl ?_; intro h H) | (refine Hp.st H 3 rfl rfl rfl rfl rfl ?_; intro h H) | (refine Hp.st H 4 rfl rfl rfl rfl rfl ?_; intro h H) | (refine Hp.st H 5 rfl rfl rfl rfl rfl ?_; intro h H) | (intro b h N; replace H := Hp.new H N; clear N) | refine Drawn.mk (by kernel_rfl) ?_ | refine FillK.row rfl ?_ | refine FillK.lit rfl ?_ | refine WrapK.i64 (by omega) (by omega) ?_ | refine WrapK.u64 (by omega) (by omega) ?_ | refine WrapK.u32 (by omega) (by omega) ?_ | refine WrapK.u8 (by omega) (by omega) ?_ | refine iteT (by omega) ?_ | refine iteF (by omega) ?_ | refine iteET (by omega) ?_ | refine iteEF (by omega) ?_ | refine iteNT (by omega) ?_ | refine iteNF (by omega) ?_); conv => whnf)
    exact ⟨H.keep, rfl, .inl ⟨0, rfl, rfl, rfl⟩⟩
  | some a =>
    conv => whnf
    repeat ((first | refine cnd_intro (by first | (simp; done) | (simp; omega) | omega | (simp only [Bool.and_eq_true, decide_eq_true_eq]; omega)) ?_ | refine Hp.ld H 0 rfl rfl ?_ | refine Hp.ld H 1 rfl rfl ?_ | refine Hp.ld H 2 rfl rfl ?_ | refine Hp.ld H 3 rfl rfl ?_ | refine Hp.ld H 4 rfl rfl ?_ | refine Hp.ld H 5 rfl rfl ?_ | (refine Hp.st H 0 rfl rfl rfl rfl rfl ?_; intro h H) | (refine Hp.st H 1 rfl rfl rfl rfl rfl ?_; intro h H) | (refine Hp.st H 2 rfl rfl rfl rfl rfl ?_; intro h H) | (refine Hp.st H 3 rfl rfl rfl rfl rfl ?_; intro h H) | (refine Hp.st H 4 rfl rfl rfl rfl rfl ?_; intro h H) | (refine Hp.st H 5 rfl rfl rfl rfl rfl ?_; intro h H) | (intro b h N; replace H := Hp.new H N; clear N) | refine Drawn.mk (by kernel_rfl) ?_ | refine FillK.row rfl ?_ | refine FillK.lit rfl ?_ | refine WrapK.i64 (by omega) (by omega) ?_ | refine WrapK.u64 (by omega) (by omega) ?_ | refine WrapK.u32 (by omega) (by omega) ?_ | refine WrapK.u8 (by omega) (by omega) ?_ | refine iteT (by omega) ?_ | refine iteF (by omega) ?_ | refine iteET (by omega) ?_ | refine iteEF (by omega) ?_ | refine iteNT (by omega) ?_ | refine iteNF (by omega) ?_); conv => whnf)
    replace H := H.whole 0 (n := 0) (size := 2) (xs := []) rfl rfl
    have hr := (hs.keep H.keep).row
    refine Hp.append EW_ok (z := ⟨.struct #[⟨ "Open", 3, 0, false, "", "", 0⟩, ⟨ "Nanos", 2, 1, false, "", "", 8⟩], 2, 16, true, some (.agg #[.int .i64 0, .int .i64 0])⟩) H 0 rfl hr (flat_length (f := Ent.cells) (n := 2) (fun _ => rfl) es).symm (fun x => by cases x) (flat_one (f := Ent.cells) (fun _ => rfl) es) rfl rfl rfl rfl rfl rfl (fun k h => by cases h) (by show _ * 16 ≤ _; omega) (by decide) (by decide) ?_
    clear H
    intro s2 h2 H
    conv => whnf
    repeat ((first | refine cnd_intro (by first | (simp; done) | (simp; omega) | omega | (simp only [Bool.and_eq_true, decide_eq_true_eq]; omega)) ?_ | refine Hp.ld H 0 rfl rfl ?_ | refine Hp.ld H 1 rfl rfl ?_ | refine Hp.ld H 2 rfl rfl ?_ | refine Hp.ld H 3 rfl rfl ?_ | refine Hp.ld H 4 rfl rfl ?_ | refine Hp.ld H 5 rfl rfl ?_ | (refine Hp.st H 0 rfl rfl rfl rfl rfl ?_; intro h H) | (refine Hp.st H 1 rfl rfl rfl rfl rfl ?_; intro h H) | (refine Hp.st H 2 rfl rfl rfl rfl rfl ?_; intro h H) | (refine Hp.st H 3 rfl rfl rfl rfl rfl ?_; intro h H) | (refine Hp.st H 4 rfl rfl rfl rfl rfl ?_; intro h H) | (refine Hp.st H 5 rfl rfl rfl rfl rfl ?_; intro h H) | (intro b h N; replace H := Hp.new H N; clear N) | refine Drawn.mk (by kernel_rfl) ?_ | refine FillK.row rfl ?_ | refine FillK.lit rfl ?_ | refine WrapK.i64 (by omega) (by omega) ?_ | refine WrapK.u64 (by omega) (by omega) ?_ | refine WrapK.u32 (by omega) (by omega) ?_ | refine WrapK.u8 (by omega) (by omega) ?_ | refine iteT (by omega) ?_ | refine iteF (by omega) ?_ | refine iteET (by omega) ?_ | refine iteEF (by omega) ?_ | refine iteNT (by omega) ?_ | refine iteNF (by omega) ?_); conv => whnf)
    refine ⟨H.keep, ?_⟩
    have o := H.own_out 0 rfl
    show OwnS _ _ _ _ s2 _ _
    simpa using o

theorem own_shape {D : Nat} {h : Heap} {e size n : Nat} {v : Value} {xs : List Value} (o : OwnS D h e size v n xs) : ∃ A c, v = .slice A n c := by
  obtain ⟨_, ⟨c, rfl, rfl, _⟩ | ⟨b, cap, r, rfl, _⟩⟩ := o
  · exact ⟨none, c, rfl⟩
  · exact ⟨_, cap, rfl⟩

theorem gclone_call (h0 : Heap) (l : Gl) (s : Value) (hs : EntsV h0 s l.es) (hl : l.es.length ≤ 1000) :
    CallK Try.prog 25 #[.agg (l.cells s).toArray] h0 fun v h' => Keep (fun _ => False) h0 h' ∧ ∃ s', v = .agg (l.cells s').toArray ∧ OwnS h0.size h' 81 2 s' l.es.length (l.es.flatMap Ent.cells) := by
  refine CallK.of_vc EW_ok [0, 1, 2] Try.func25 rfl (Nat.le_of_ble_eq_true rfl) ?_
  have H := Hp.start h0
  conv => whnf
  repeat ((first | refine cnd_intro (by first | (simp; done) | (simp; omega) | omega | (simp only [Bool.and_eq_true, decide_eq_true_eq]; omega)) ?_ | refine Hp.ld H 0 rfl rfl ?_ | refine Hp.ld H 1 rfl rfl ?_ | refine Hp.ld H 2 rfl rfl ?_ | refine Hp.ld H 3 rfl rfl ?_ | refine Hp.ld H 4 rfl rfl ?_ | refine Hp.ld H 5 rfl rfl ?_ | (refine Hp.st H 0 rfl rfl rfl rfl rfl ?_; intro h H) | (refine Hp.st H 1 rfl rfl rfl rfl rfl ?_; intro h H) | (refine Hp.st H 2 rfl rfl rfl rfl rfl ?_; intro h H) | (refine Hp.st H 3 rfl rfl rfl rfl rfl ?_; intro h H) | (refine Hp.st H 4 rfl rfl rfl rfl rfl ?_; intro h H) | (refine Hp.st H 5 rfl rfl rfl rfl rfl ?_; intro h H) | (intro b h N; replace H := Hp.new H N; clear N) | refine Drawn.mk (by kernel_rfl) ?_ | refine FillK.row rfl ?_ | refine FillK.lit rfl ?_ | refine WrapK.i64 (by omega) (by omega) ?_ | refine WrapK.u64 (by omega) (by omega) ?_ | refine WrapK.u32 (by omega) (by omega) ?_ | refine WrapK.u8 (by omega) (by omega) ?_ | refine iteT (by omega) ?_ | refine iteF (by omega) ?_ | refine iteET (by omega) ?_ | refine iteEF (by omega) ?_ | refine iteNT (by omega) ?_ | refine iteNF (by omega) ?_); conv => whnf)
  refine CallK.mono (gsclone_call _ s l.es (hs.keep H.keep) hl) ?_
  rintro s2 h2 ⟨k2, o2⟩
  replace H := H.made o2 k2
  obtain ⟨A2, c2, rfl⟩ := own_shape o2
  conv => whnf
  repeat ((first | refine cnd_intro (by first | (simp; done) | (simp; omega) | omega | (simp only [Bool.and_eq_true, decide_eq_true_eq]; omega)) ?_ | refine Hp.ld H 0 rfl rfl ?_ | refine Hp.ld H 1 rfl rfl ?_ | refine Hp.ld H 2 rfl rfl ?_ | refine Hp.ld H 3 rfl rfl ?_ | refine Hp.ld H 4 rfl rfl ?_ | refine Hp.ld H 5 rfl rfl ?_ | (refine Hp.st H 0 rfl rfl rfl rfl rfl ?_; intro h H) | (refine Hp.st H 1 rfl rfl rfl rfl rfl ?_; intro h H) | (refine Hp.st H 2 rfl rfl rfl rfl rfl ?_; intro h H) | (refine Hp.st H 3 rfl rfl rfl rfl rfl ?_; intro h H) | (refine Hp.st H 4 rfl rfl rfl rfl rfl ?_; intro h H) | (refine Hp.st H 5 rfl rfl rfl rfl rfl ?_; intro h H) | (intro b h N; replace H := Hp.new H N; clear N) | refine Drawn.mk (by kernel_rfl) ?_ | refine FillK.row rfl ?_ | refine FillK.lit rfl ?_ | refine WrapK.i64 (by omega) (by omega) ?_ | refine WrapK.u64 (by omega) (by omega) ?_ | refine WrapK.u32 (by omega) (by omega) ?_ | refine WrapK.u8 (by omega) (by omega) ?_ | refine iteT (by omega) ?_ | refine iteF (by omega) ?_ | refine iteET (by omega) ?_ | refine iteEF (by omega) ?_ | refine iteNT (by omega) ?_ | refine iteNF (by omega) ?_); conv => whnf)
  exact ⟨H.keep, _, rfl, H.own_out 0 rfl⟩

theorem fm_i64 {h : Heap} {k : Nat} {cs : List Value} (f : Fm EE h (k + 1) 2 cs) : ∃ n : Int, cs = [.int .i64 n] ∧ -9223372036854775808 ≤ n ∧ n ≤ 9223372036854775807 := by
  obtain ⟨p, rfl, wp⟩ : ∃ n, cs = [.int .i64 n] ∧ (Lit.int .i64 n).wf = true := f
  simp only [Lit.wf, IntKind.min, IntKind.max, IntKind.signed, IntKind.bits, Bool.and_eq_true, decide_eq_true_eq, if_true] at wp
  simp at wp
  exact ⟨p, rfl, by omega, by omega⟩

theorem choose_at {α : Type} {P : Nat → α → Prop} : ∀ (n : Nat), (∀ i, i < n → ∃ x, P i x) → ∃ L : List α, L.length = n ∧ ∀ (i : Nat) x, L[i]? = some x → P i x
  | 0, _ => ⟨[], rfl, fun i x h => by simp at h⟩
  | n + 1, h => by
    obtain ⟨L, hl, hL⟩ := choose_at n (fun i hi => h i (by omega))
    obtain ⟨x, hx⟩ := h n (by omega)
    refine ⟨L ++ [x], by simp [hl], fun i y hy => ?_⟩
    rw [List.getElem?_append] at hy
    split at hy
    · exact hL i y hy
    · rename_i hi
      have e : i - L.length = 0 := by
        rcases Nat.lt_or_ge (i - L.length) 1 with h | h
        · omega
        · rw [List.getElem?_eq_none (by simpa using h)] at hy; cases hy
      rw [e] at hy
      simp only [List.getElem?_cons_zero, Option.some.injEq] at hy
      subst hy
      have : i = n := by omega
      rw [this]
      exact hx

theorem arg_ents {h : Heap} {v : Value} (a : Arg EE h 22 v) : ∃ es : List Ent, EntsV h v es ∧ es.length ≤ 9223372036854775807 ∧ ∀ x ∈ es, (-9223372036854775808 ≤ x.op ∧ x.op ≤ 9223372036854775807) ∧ (-9223372036854775808 ≤ x.ns ∧ x.ns ≤ 9223372036854775807) := by
  obtain ⟨A, n, cap, rfl, h1, h2, h3⟩ := a.slice (e := 81) rfl rfl rfl rfl (by decide)
  have h4 : ∀ i, i < n → ∃ x : Ent, Elem h A (i * 2) 2 x.cells ∧ (-9223372036854775808 ≤ x.op ∧ x.op ≤ 9223372036854775807) ∧ (-9223372036854775808 ≤ x.ns ∧ x.ns ≤ 9223372036854775807) := by
    intro i hi
    obtain ⟨cs, he, hf⟩ := h3 3 i hi
    obtain ⟨hl, hf⟩ : cs.length = 2 ∧ ∀ f ∈ ([⟨ "Open", 3, 0, false, "", "", 0⟩, ⟨ "Nanos", 2, 1, false, "", "", 8⟩] : List Field), match EE.ty f.type with
      | none => True
      | some z => Fm EE h 2 f.type ((cs.drop f.offset).take z.size) := hf
    obtain ⟨p, ep, rp⟩ := fm_int (k := 1) (cs := (cs.drop 0).take 1) (hf ⟨ "Open", 3, 0, false, "", "", 0⟩ (by simp))
    obtain ⟨q, eq, rq⟩ := fm_i64 (k := 1) (cs := (cs.drop 1).take 1) (hf ⟨ "Nanos", 2, 1, false, "", "", 8⟩ (by simp))
    refine ⟨⟨p, q⟩, ?_, rp, rq⟩
    match cs, hl with
    | [x, y], _ =>
      simp at ep eq
      rw [ep, eq] at he
      exact he
  obtain ⟨L, hl, hL⟩ := choose_at n h4
  have hm : maxLen ≤ 9223372036854775807 := by decide
  refine ⟨L, ⟨A, cap, by rw [hl], by omega, fun i x hx => (hL i x hx).1⟩, by omega, fun x hx => ?_⟩
  obtain ⟨i, hi⟩ := List.getElem?_of_mem hx
  exact (hL i x hi).2

theorem arg_list {h : Heap} {v : Value} (a : Arg EE h 24 v) : ∃ (l : Gl) (s : Value), v = .agg (l.cells s).toArray ∧ EntsV h s l.es ∧ l.es.length ≤ 9223372036854775807 ∧ (-9223372036854775808 ≤ l.base ∧ l.base ≤ 9223372036854775807) ∧ (-9223372036854775808 ≤ l.cycle ∧ l.cycle ≤ 9223372036854775807) := by
  obtain ⟨cs, rfl⟩ := a.agg _ rfl rfl
  have hf : ∀ k, cs.toList.length = 4 ∧ ∀ f ∈ ([⟨ "Base", 2, 0, false, "", "", 0⟩, ⟨ "Cycle", 2, 1, false, "", "", 8⟩, ⟨ "Extension", 2, 2, false, "", "", 16⟩, ⟨ "Entries", 22, 3, false, "", "", 24⟩] : List Field), match EE.ty f.type with
      | none => True
      | some z => Fm EE h k f.type ((cs.toList.drop f.offset).take z.size) := fun k => a.fm (k + 1)
  obtain ⟨hl, hf3⟩ := hf 3
  obtain ⟨n0, e0, r0⟩ := fm_i64 (k := 2) (cs := (cs.toList.drop 0).take 1) (hf3 ⟨ "Base", 2, 0, false, "", "", 0⟩ (by simp))
  obtain ⟨n1, e1, r1⟩ := fm_i64 (k := 2) (cs := (cs.toList.drop 1).take 1) (hf3 ⟨ "Cycle", 2, 1, false, "", "", 8⟩ (by simp))
  obtain ⟨n2, e2, r2⟩ := fm_i64 (k := 2) (cs := (cs.toList.drop 2).take 1) (hf3 ⟨ "Extension", 2, 2, false, "", "", 16⟩ (by simp))
  have hf4 : ∀ k, Fm EE h k 22 ((cs.toList.drop 3).take 1) := fun k => (hf k).2 ⟨ "Entries", 22, 3, false, "", "", 24⟩ (by simp)
  have hv : ∃ v : Value, (cs.toList.drop 3).take 1 = [v] ∧ v.cells = #[v] := by
    rcases hf4 1 with e | ⟨a, len, cap, e, _⟩
    · exact ⟨_, e, rfl⟩
    · exact ⟨_, e, rfl⟩
  obtain ⟨v, ev, hvc⟩ := hv
  have hag : ∀ y, EE.ty 22 = some y → y.agg = true → ∃ cs, v = .agg cs := by
    intro y hy ha
    have e : EE.ty 22 = some ⟨.slice 81, 1, 24, false, some (.slice none 0 0)⟩ := rfl
    rw [e] at hy
    injection hy with hy
    subst hy
    cases ha
  have av : Arg EE h 22 v := ⟨fun k => by rw [hvc, ← ev]; exact hf4 k, hag, fun y hy ha => hvc⟩
  obtain ⟨es, h1, h2, _⟩ := arg_ents av
  refine ⟨⟨n0, n1, n2, es⟩, v, ?_, h1, h2, r0, r1⟩
  congr 1
  apply Array.toList_inj.1
  generalize cs.toList = l at *
  match l, hl with
  | [c0, c1, c2, c3], _ =>
    simp at e0 e1 e2 ev
    simp [Gl.cells, e0, e1, e2, ev]

end Go.Proofs.Ytloghahkelogbaa
