import Derived.Test.YtcjilkemfmhkgaaEnv
import Derived.Test.YtcjilkemfmhkgaaLib
namespace Go.Proofs.Ytcjilkemfmhkgaa
open Go.Vc
set_option maxRecDepth 10000
set_option maxHeartbeats 4000000

/-! ### addresses and headers -/

structure Mac6 where
  a0 : UInt8
  a1 : UInt8
  a2 : UInt8
  a3 : UInt8
  a4 : UInt8
  a5 : UInt8

def Mac6.list (m : Mac6) : List UInt8 := [m.a0, m.a1, m.a2, m.a3, m.a4, m.a5]
def Mac6.cells (m : Mac6) : List Value := [.int .u8 m.a0.toNat, .int .u8 m.a1.toNat, .int .u8 m.a2.toNat, .int .u8 m.a3.toNat, .int .u8 m.a4.toNat, .int .u8 m.a5.toNat]

structure Hdr where
  dst : Mac6
  src : Mac6
  tagged : Bool
  pcp : Int
  dei : Bool
  vid : Int
  typ : Int
  llc : Bool

def Hdr.cells (h : Hdr) : List Value := [.int .u8 h.dst.a0.toNat, .int .u8 h.dst.a1.toNat, .int .u8 h.dst.a2.toNat, .int .u8 h.dst.a3.toNat, .int .u8 h.dst.a4.toNat, .int .u8 h.dst.a5.toNat,
  .int .u8 h.src.a0.toNat, .int .u8 h.src.a1.toNat, .int .u8 h.src.a2.toNat, .int .u8 h.src.a3.toNat, .int .u8 h.src.a4.toNat, .int .u8 h.src.a5.toNat,
  .bool h.tagged, .int .i64 h.pcp, .bool h.dei, .int .i64 h.vid, .int .i64 h.typ, .bool h.llc]

def Mac6.group (m : Mac6) : Bool := decide (m.a0.toNat % 2 = 1)

instance : DecidableEq Mac6 := fun a b => by
  cases a; cases b
  simp only [Mac6.mk.injEq]
  infer_instance

theorem u8_eq (x y : UInt8) : ((x.toNat : Int) == (y.toNat : Int)) = decide (x = y) := by
  rw [Bool.eq_iff_iff, beq_iff_eq, decide_eq_true_eq]
  exact ⟨fun h => UInt8.toNat_inj.1 (by omega), fun h => by rw [h]⟩

theorem mac_eq (a b : Mac6) : eqB EE 20 36 a.cells b.cells = some (decide (a = b)) := by
  have ht : decide (a = b) = true ↔ a = b := decide_eq_true_iff
  generalize decide (a = b) = q at ht
  obtain ⟨a0, a1, a2, a3, a4, a5⟩ := a
  obtain ⟨b0, b1, b2, b3, b4, b5⟩ := b
  have h : eqB EE 20 36 (Mac6.mk a0 a1 a2 a3 a4 a5).cells (Mac6.mk b0 b1 b2 b3 b4 b5).cells = some (((a0.toNat : Int) == (b0.toNat : Int)) && (((a1.toNat : Int) == (b1.toNat : Int)) && (((a2.toNat : Int) == (b2.toNat : Int)) && (((a3.toNat : Int) == (b3.toNat : Int)) && (((a4.toNat : Int) == (b4.toNat : Int)) && (((a5.toNat : Int) == (b5.toNat : Int)) && true)))))) := by
    kernel_rfl
  rw [h, u8_eq, u8_eq, u8_eq, u8_eq, u8_eq, u8_eq]
  congr 1
  rw [Bool.eq_iff_iff, ht]
  simp only [Bool.and_eq_true, decide_eq_true_eq, Mac6.mk.injEq, and_true]

theorem fm_u8 {h : Heap} {k : Nat} {cs : List Value} (f : Fm EE h (k + 1) 5 cs) : ∃ x : UInt8, cs = [.int .u8 x.toNat] := by
  obtain ⟨p, rfl, wp⟩ : ∃ n, cs = [.int .u8 n] ∧ (Lit.int .u8 n).wf = true := f
  simp only [Lit.wf, IntKind.min, IntKind.max, IntKind.signed, IntKind.bits, Bool.and_eq_true, decide_eq_true_eq, if_true] at wp
  simp at wp
  refine ⟨UInt8.ofNat p.toNat, ?_⟩
  congr 2
  simp only [UInt8.toNat_ofNat']
  omega

theorem fm_int {h : Heap} {k : Nat} {cs : List Value} (f : Fm EE h (k + 1) 3 cs) : ∃ n : Int, cs = [.int .i64 n] ∧ -9223372036854775808 ≤ n ∧ n ≤ 9223372036854775807 := by
  obtain ⟨p, rfl, wp⟩ : ∃ n, cs = [.int .i64 n] ∧ (Lit.int .i64 n).wf = true := f
  simp only [Lit.wf, IntKind.min, IntKind.max, IntKind.signed, IntKind.bits, Bool.and_eq_true, decide_eq_true_eq, if_true] at wp
  simp at wp
  exact ⟨p, rfl, by omega, by omega⟩

theorem fm_bool {h : Heap} {k : Nat} {cs : List Value} (f : Fm EE h (k + 1) 4 cs) : ∃ b, cs = [.bool b] := f

theorem list_one {l : List Value} {i : Nat} {v : Value} (h : (l.drop i).take 1 = [v]) : l[i]? = some v := by
  have : ((l.drop i).take 1)[0]? = some v := by rw [h]; rfl
  rw [List.getElem?_take] at this
  simpa using this

theorem fm_mac {h : Heap} {k : Nat} {cs : List Value} (f : Fm EE h (k + 2) 36 cs) : ∃ m : Mac6, cs = m.cells := by
  obtain ⟨hl, he⟩ : cs.length = 6 ∧ ∀ i, i < 6 → Fm EE h (k + 1) 5 ((cs.drop (i * 1)).take 1) := f
  have g : ∀ i, i < 6 → ∃ x : UInt8, cs[i]? = some (.int .u8 x.toNat) := by
    intro i hi
    obtain ⟨x, hx⟩ := fm_u8 (he i hi)
    rw [Nat.mul_one] at hx
    exact ⟨x, list_one hx⟩
  obtain ⟨x0, h0⟩ := g 0 (by decide)
  obtain ⟨x1, h1⟩ := g 1 (by decide)
  obtain ⟨x2, h2⟩ := g 2 (by decide)
  obtain ⟨x3, h3⟩ := g 3 (by decide)
  obtain ⟨x4, h4⟩ := g 4 (by decide)
  obtain ⟨x5, h5⟩ := g 5 (by decide)
  match cs, hl, h0, h1, h2, h3, h4, h5 with
  | [c0, c1, c2, c3, c4, c5], _, h0, h1, h2, h3, h4, h5 =>
    simp only [List.getElem?_cons_zero, List.getElem?_cons_succ, Option.some.injEq] at h0 h1 h2 h3 h4 h5
    subst h0 h1 h2 h3 h4 h5
    exact ⟨⟨x0, x1, x2, x3, x4, x5⟩, rfl⟩

theorem arg_mac {h : Heap} {v : Value} (a : Arg EE h 36 v) : ∃ m : Mac6, v = .agg m.cells.toArray := by
  obtain ⟨cs, rfl⟩ := a.agg _ rfl rfl
  obtain ⟨m, hm⟩ := fm_mac (k := 1) (a.fm 3)
  refine ⟨m, ?_⟩
  rw [← hm]
  show Value.agg cs = Value.agg cs.toList.toArray
  rw [Array.toArray_toList]

def Hdr.Ok (F : Hdr) : Prop := (-9223372036854775808 ≤ F.pcp ∧ F.pcp ≤ 9223372036854775807) ∧ (-9223372036854775808 ≤ F.vid ∧ F.vid ≤ 9223372036854775807) ∧ (-9223372036854775808 ≤ F.typ ∧ F.typ ≤ 9223372036854775807)

theorem arg_hdr {h : Heap} {v : Value} (a : Arg EE h 41 v) : ∃ F : Hdr, v = .agg F.cells.toArray ∧ F.Ok := by
  obtain ⟨cs, rfl⟩ := a.agg _ rfl rfl
  obtain ⟨hl, hf⟩ : cs.toList.length = 18 ∧ ∀ f ∈ ([⟨ "Dst", 36, 0, false, "", "", 0⟩, ⟨ "Src", 36, 6, false, "", "", 6⟩, ⟨ "Tagged", 4, 12, false, "", "", 12⟩, ⟨ "Pcp", 3, 13, false, "", "", 16⟩, ⟨ "Dei", 4, 14, false, "", "", 24⟩, ⟨ "Vid", 3, 15, false, "", "", 32⟩, ⟨ "Type", 3, 16, false, "", "", 40⟩, ⟨ "Llc", 4, 17, false, "", "", 48⟩] : List Field), match EE.ty f.type with
    | none => True
    | some z => Fm EE h 3 f.type ((cs.toList.drop f.offset).take z.size) := a.fm 4
  obtain ⟨d, hd⟩ := fm_mac (k := 1) (cs := (cs.toList.drop 0).take 6) (hf ⟨ "Dst", 36, 0, false, "", "", 0⟩ (by simp))
  obtain ⟨s, hs⟩ := fm_mac (k := 1) (cs := (cs.toList.drop 6).take 6) (hf ⟨ "Src", 36, 6, false, "", "", 6⟩ (by simp))
  obtain ⟨b2, e2⟩ := fm_bool (k := 2) (cs := (cs.toList.drop 12).take 1) (hf ⟨ "Tagged", 4, 12, false, "", "", 12⟩ (by simp))
  obtain ⟨n3, e3, r3⟩ := fm_int (k := 2) (cs := (cs.toList.drop 13).take 1) (hf ⟨ "Pcp", 3, 13, false, "", "", 16⟩ (by simp))
  obtain ⟨b4, e4⟩ := fm_bool (k := 2) (cs := (cs.toList.drop 14).take 1) (hf ⟨ "Dei", 4, 14, false, "", "", 24⟩ (by simp))
  obtain ⟨n5, e5, r5⟩ := fm_int (k := 2) (cs := (cs.toList.drop 15).take 1) (hf ⟨ "Vid", 3, 15, false, "", "", 32⟩ (by simp))
  obtain ⟨n6, e6, r6⟩ := fm_int (k := 2) (cs := (cs.toList.drop 16).take 1) (hf ⟨ "Type", 3, 16, false, "", "", 40⟩ (by simp))
  obtain ⟨b7, e7⟩ := fm_bool (k := 2) (cs := (cs.toList.drop 17).take 1) (hf ⟨ "Llc", 4, 17, false, "", "", 48⟩ (by simp))
  refine ⟨⟨d, s, b2, n3, b4, n5, n6, b7⟩, ?_, r3, r5, r6⟩
  congr 1
  apply Array.toList_inj.1
  generalize cs.toList = l at *
  match l, hl with
  | [c0, c1, c2, c3, c4, c5, c6, c7, c8, c9, c10, c11, c12, c13, c14, c15, c16, c17], _ =>
    simp at hd hs e2 e3 e4 e5 e6 e7
    simp [Mac6.cells] at hd hs
    simp [Hdr.cells, hd, hs, e2, e3, e4, e5, e6, e7]

end Go.Proofs.Ytcjilkemfmhkgaa
