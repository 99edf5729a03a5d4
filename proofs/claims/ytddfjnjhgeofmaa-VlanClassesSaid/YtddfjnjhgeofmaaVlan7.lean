import Derived.Test.YtddfjnjhgeofmaaVlan6
namespace Go.Proofs.Ytddfjnjhgeofmaa
open Go.Vc
set_option maxRecDepth 10000
set_option maxHeartbeats 8000000

/-! ### vlan: a table and the model, both with some acts -/

structure VAct where
  kind : Int
  vid : Int
  mem : Int
  pl : Int
  port : VPort
  at_ : Int

def VAct.cells (a : VAct) : List Value := [.int .i64 a.kind, .int .i64 a.vid, .int .i64 a.mem, .int .i64 a.pl, .int .i64 a.port.accept, .int .i64 a.port.pvid, .int .i64 a.port.pcp, .bool a.port.filter, .int .i64 a.at_]

def VAct.Ok (a : VAct) : Prop := (-9223372036854775808 ≤ a.mem ∧ a.mem ≤ 9223372036854775807) ∧ (-9223372036854775808 ≤ a.pl ∧ a.pl ≤ 9223372036854775807)

abbrev iV : Int → Value := fun i => .int .i64 i

def L1 (T : List VRow) : List (Int × Int) := T.map fun x => (x.vid, x.mem)
def L2 (T : List VRow) : List (Int × Int) := T.map fun x => (x.vid, x.pl)

theorem L1_del (v : Int) (T : List VRow) : mdel v (L1 T) = L1 (vdel v T) := by
  unfold mdel L1 vdel
  rw [List.filter_map]
  rfl
theorem L2_del (v : Int) (T : List VRow) : mdel v (L2 T) = L2 (vdel v T) := by
  unfold mdel L2 vdel
  rw [List.filter_map]
  rfl

theorem L1_put (v m p : Int) : ∀ T : List VRow, mput v m (L1 T) = L1 (vput v m p T)
  | [] => rfl
  | x :: r => by
    show mput v m ((x.vid, x.mem) :: L1 r) = L1 (vput v m p (x :: r))
    simp only [mput, vput]
    split
    · rfl
    · show _ :: _ = (x.vid, x.mem) :: L1 _
      rw [L1_put v m p r]
theorem L2_put (v m p : Int) : ∀ T : List VRow, mput v p (L2 T) = L2 (vput v m p T)
  | [] => rfl
  | x :: r => by
    show mput v p ((x.vid, x.pl) :: L2 r) = L2 (vput v m p (x :: r))
    simp only [mput, vput]
    split
    · rfl
    · show _ :: _ = (x.vid, x.pl) :: L2 _
      rw [L2_put v m p r]

theorem L1_lk (v : Int) : ∀ T : List VRow, lk (L1 T) v = (T.find? (VRow.isV v)).map VRow.mem
  | [] => rfl
  | x :: r => by
    show lk ((x.vid, x.mem) :: L1 r) v = _
    simp only [lk]
    rw [List.find?_cons]
    by_cases c : x.vid = v
    · rw [if_pos c.symm, show VRow.isV v x = true from decide_eq_true c]
      rfl
    · rw [if_neg (fun e => c e.symm), show VRow.isV v x = false from decide_eq_false c]
      exact L1_lk v r
theorem L2_lk (v : Int) : ∀ T : List VRow, lk (L2 T) v = (T.find? (VRow.isV v)).map VRow.pl
  | [] => rfl
  | x :: r => by
    show lk ((x.vid, x.pl) :: L2 r) v = _
    simp only [lk]
    rw [List.find?_cons]
    by_cases c : x.vid = v
    · rw [if_pos c.symm, show VRow.isV v x = true from decide_eq_true c]
      rfl
    · rw [if_neg (fun e => c e.symm), show VRow.isV v x = false from decide_eq_false c]
      exact L2_lk v r

theorem argacts {h : Heap} {v : Value} (a : Arg EE h 22 v) : ∃ acts : List VAct, RowsV VAct.cells 9 h v acts ∧ acts.length ≤ 9223372036854775807 ∧ ∀ x ∈ acts, x.Ok := by
  obtain ⟨A, n, cap, rfl, h1, h2, h3⟩ := a.slice (e := 94) rfl rfl rfl rfl (by decide)
  have h4 : ∀ i, i < n → ∃ x : VAct, Elem h A (i * 9) 9 x.cells ∧ x.Ok := by
    intro i hi
    obtain ⟨cs, he, hf⟩ := h3 4 i hi
    obtain ⟨hl, hf⟩ : cs.length = 9 ∧ ∀ f ∈ ([⟨ "Kind", 3, 0, false, "", "", 0⟩, ⟨ "Vid", 3, 1, false, "", "", 8⟩, ⟨ "Members", 3, 2, false, "", "", 16⟩, ⟨ "Plain", 3, 3, false, "", "", 24⟩, ⟨ "Port", 44, 4, false, "", "", 32⟩, ⟨ "At", 3, 8, false, "", "", 64⟩] : List Field), match EE.ty f.type with
      | none => True
      | some z => Fm EE h 3 f.type ((cs.drop f.offset).take z.size) := hf
    obtain ⟨a0, e0, _⟩ := fm_int (k := 2) (cs := (cs.drop 0).take 1) (hf ⟨ "Kind", 3, 0, false, "", "", 0⟩ (by simp))
    obtain ⟨a1, e1, _⟩ := fm_int (k := 2) (cs := (cs.drop 1).take 1) (hf ⟨ "Vid", 3, 1, false, "", "", 8⟩ (by simp))
    obtain ⟨a2, e2, r2⟩ := fm_int (k := 2) (cs := (cs.drop 2).take 1) (hf ⟨ "Members", 3, 2, false, "", "", 16⟩ (by simp))
    obtain ⟨a3, e3, r3⟩ := fm_int (k := 2) (cs := (cs.drop 3).take 1) (hf ⟨ "Plain", 3, 3, false, "", "", 24⟩ (by simp))
    obtain ⟨a8, e8, _⟩ := fm_int (k := 2) (cs := (cs.drop 8).take 1) (hf ⟨ "At", 3, 8, false, "", "", 64⟩ (by simp))
    have hp : Fm EE h 3 44 ((cs.drop 4).take 4) := hf ⟨ "Port", 44, 4, false, "", "", 32⟩ (by simp)
    obtain ⟨hlp, hpf⟩ : ((cs.drop 4).take 4).length = 4 ∧ ∀ f ∈ ([⟨ "Accept", 3, 0, false, "", "", 0⟩, ⟨ "Pvid", 3, 1, false, "", "", 8⟩, ⟨ "Pcp", 3, 2, false, "", "", 16⟩, ⟨ "Filter", 4, 3, false, "", "", 24⟩] : List Field), match EE.ty f.type with
      | none => True
      | some z => Fm EE h 2 f.type ((((cs.drop 4).take 4).drop f.offset).take z.size) := hp
    obtain ⟨b0, q0, _⟩ := fm_int (k := 1) (cs := (((cs.drop 4).take 4).drop 0).take 1) (hpf ⟨ "Accept", 3, 0, false, "", "", 0⟩ (by simp))
    obtain ⟨b1, q1, _⟩ := fm_int (k := 1) (cs := (((cs.drop 4).take 4).drop 1).take 1) (hpf ⟨ "Pvid", 3, 1, false, "", "", 8⟩ (by simp))
    obtain ⟨b2, q2, _⟩ := fm_int (k := 1) (cs := (((cs.drop 4).take 4).drop 2).take 1) (hpf ⟨ "Pcp", 3, 2, false, "", "", 16⟩ (by simp))
    obtain ⟨b3, q3⟩ := fm_bool (k := 1) (cs := (((cs.drop 4).take 4).drop 3).take 1) (hpf ⟨ "Filter", 4, 3, false, "", "", 24⟩ (by simp))
    refine ⟨⟨a0, a1, a2, a3, ⟨b0, b1, b2, b3⟩, a8⟩, ?_, r2, r3⟩
    match cs, hl with
    | [c0, c1, c2, c3, c4, c5, c6, c7, c8], _ =>
      simp at e0 e1 e2 e3 e8 q0 q1 q2 q3
      rw [e0, e1, e2, e3, e8, q0, q1, q2, q3] at he
      exact he
  obtain ⟨L, hl, hL⟩ := pick_at n h4
  subst hl
  have hm : maxLen ≤ 9223372036854775807 := by decide
  refine ⟨L, ⟨A, cap, rfl, by omega, fun i x hx => (hL i x hx).1⟩, by omega, fun x hx => ?_⟩
  obtain ⟨i, hi⟩ := List.getElem?_of_mem hx
  exact (hL i x hi).2

theorem key_ok : KeyT EW 3 iV := KeyT.int EW_ok (y := i64T) rfl rfl

end Go.Proofs.Ytddfjnjhgeofmaa
