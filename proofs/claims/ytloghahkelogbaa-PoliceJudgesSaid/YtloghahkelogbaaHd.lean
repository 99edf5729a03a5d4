import Derived.Test.YtloghahkelogbaaEnv
import Derived.Test.YtloghahkelogbaaLib
namespace Go.Proofs.Ytloghahkelogbaa
open Go.Vc
set_option maxRecDepth 10000
set_option maxHeartbeats 4000000

/-! ### addresses and headers -/

structure Mac6 where
  a0 : UInt8
  a1 : UInt8
  a2 : UInt8
  a3 : UInt8
  a4 : UInt8
  a5 : UInt8

def Mac6.list (m : Mac6) : List UInt8 := [m.a0, m.a1, m.a2, m.a3, m.a4, m.a5]
def Mac6.cells (m : Mac6) : List Value := [.int .u8 m.a0.toNat, .int .u8 m.a1.toNat, .int .u8 m.a2.toNat, .int .u8 m.a3.toNat, .int .u8 m.a4.toNat, .int .u8 m.a5.toNat]

structure Hdr where
  dst : Mac6
  src : Mac6
  tagged : Bool
  pcp : Int
  dei : Bool
  vid : Int
  typ : Int
  llc : Bool

def Hdr.cells (h : Hdr) : List Value := [.int .u8 h.dst.a0.toNat, .int .u8 h.dst.a1.toNat, .int .u8 h.dst.a2.toNat, .int .u8 h.dst.a3.toNat, .int .u8 h.dst.a4.toNat, .int .u8 h.dst.a5.toNat,
  .int .u8 h.src.a0.toNat, .int .u8 h.src.a1.toNat, .int .u8 h.src.a2.toNat, .int .u8 h.src.a3.toNat, .int .u8 h.src.a4.toNat, .int .u8 h.src.a5.toNat,
  .bool h.tagged, .int .i64 h.pcp, .bool h.dei, .int .i64 h.vid, .int .i64 h.typ, .bool h.llc]

def Mac6.group (m : Mac6) : Bool := decide (m.a0.toNat % 2 = 1)

instance : DecidableEq Mac6 := fun a b => by
  cases a; cases b
  simp only [Mac6.mk.injEq]
  infer_instance

theorem u8_eq (x y : UInt8) : ((x.toNat : Int) == (y.toNat : Int)) = decide (x = y) := by
  rw [Bool.eq_iff_iff, beq_iff_eq, decide_eq_true_eq]
  exact ⟨fun h => UInt8.toNat_inj.1 (by omega), fun h => by rw [h]⟩

theorem fm_u8 {h : Heap} {k : Nat} {cs : List Value} (f : Fm EE h (k + 1) 5 cs) : ∃ x : UInt8, cs = [.int .u8 x.toNat] := by
  obtain ⟨p, rfl, wp⟩ : ∃ n, cs = [.int .u8 n] ∧ (Lit.int .u8 n).wf = true := f
  simp only [Lit.wf, IntKind.min, IntKind.max, IntKind.signed, IntKind.bits, Bool.and_eq_true, decide_eq_true_eq, if_true] at wp
  simp at wp
  refine ⟨UInt8.ofNat p.toNat, ?_⟩
  congr 2
  simp only [UInt8.toNat_ofNat']
  omega

theorem fm_int {h : Heap} {k : Nat} {cs : List Value} (f : Fm EE h (k + 1) 3 cs) : ∃ n : Int, cs = [.int .i64 n] ∧ -9223372036854775808 ≤ n ∧ n ≤ 9223372036854775807 := by
  obtain ⟨p, rfl, wp⟩ : ∃ n, cs = [.int .i64 n] ∧ (Lit.int .i64 n).wf = true := f
  simp only [Lit.wf, IntKind.min, IntKind.max, IntKind.signed, IntKind.bits, Bool.and_eq_true, decide_eq_true_eq, if_true] at wp
  simp at wp
  exact ⟨p, rfl, by omega, by omega⟩

theorem fm_bool {h : Heap} {k : Nat} {cs : List Value} (f : Fm EE h (k + 1) 4 cs) : ∃ b, cs = [.bool b] := f

def Hdr.Ok (F : Hdr) : Prop := (-9223372036854775808 ≤ F.pcp ∧ F.pcp ≤ 9223372036854775807) ∧ (-9223372036854775808 ≤ F.vid ∧ F.vid ≤ 9223372036854775807) ∧ (-9223372036854775808 ≤ F.typ ∧ F.typ ≤ 9223372036854775807)

end Go.Proofs.Ytloghahkelogbaa
