import Derived.Test.YtkinjdnjhnljhaaOctet4
import Derived.Test.YtkinjdnjhnljhaaCrc
namespace Go.Proofs.Ytkinjdnjhnljhaa
open Go.Vc
set_option maxRecDepth 10000
set_option maxHeartbeats 4000000

/-! ### mac: headers -/

structure Mac6 where
  a0 : UInt8
  a1 : UInt8
  a2 : UInt8
  a3 : UInt8
  a4 : UInt8
  a5 : UInt8

def Mac6.list (m : Mac6) : List UInt8 := [m.a0, m.a1, m.a2, m.a3, m.a4, m.a5]
def Mac6.cells (m : Mac6) : List Value := [.int .u8 m.a0.toNat, .int .u8 m.a1.toNat, .int .u8 m.a2.toNat, .int .u8 m.a3.toNat, .int .u8 m.a4.toNat, .int .u8 m.a5.toNat]

structure Hdr where
  dst : Mac6
  src : Mac6
  tagged : Bool
  pcp : Int
  dei : Bool
  vid : Int
  typ : Int
  llc : Bool

def Hdr.cells (h : Hdr) : List Value := [.int .u8 h.dst.a0.toNat, .int .u8 h.dst.a1.toNat, .int .u8 h.dst.a2.toNat, .int .u8 h.dst.a3.toNat, .int .u8 h.dst.a4.toNat, .int .u8 h.dst.a5.toNat,
  .int .u8 h.src.a0.toNat, .int .u8 h.src.a1.toNat, .int .u8 h.src.a2.toNat, .int .u8 h.src.a3.toNat, .int .u8 h.src.a4.toNat, .int .u8 h.src.a5.toNat,
  .bool h.tagged, .int .i64 h.pcp, .bool h.dei, .int .i64 h.vid, .int .i64 h.typ, .bool h.llc]

def Mac6.group (m : Mac6) : Bool := decide (m.a0.toNat % 2 = 1)

theorem low8 (x : UInt8) : bAnd .u8 (x.toNat : Int) 1 = ((x.toNat % 2 : Nat) : Int) := by
  have := bAnd_u8 (a := x.toNat) (b := 1) x.toNat_lt (by decide)
  rw [Nat.and_one_is_mod] at this
  exact this

theorem group_call (h0 : Heap) (m : Mac6) : CallK Try.prog 37 #[.agg m.cells.toArray] h0 fun v h' => Keep (fun _ => False) h0 h' ∧ v = .bool m.group := by
  refine CallK.of_vc EW_ok [0, 1, 2] Try.func37 rfl (Nat.le_of_ble_eq_true rfl) ?_
  have H := Hp.start h0
  conv => whnf
  repeat (first | (refine cnd_intro (by first | (simp; done) | (simp; omega) | omega | (simp only [Bool.and_eq_true, decide_eq_true_eq]; omega)) ?_; conv => whnf) | (refine Hp.ld H 0 rfl rfl ?_; conv => whnf) | (refine Hp.ld H 1 rfl rfl ?_; conv => whnf) | (refine Hp.ld H 2 rfl rfl ?_; conv => whnf) | (refine Hp.ld H 3 rfl rfl ?_; conv => whnf) | (refine Hp.ld H 4 rfl rfl ?_; conv => whnf) | (refine Hp.ld H 5 rfl rfl ?_; conv => whnf) | (refine Hp.st H 0 rfl rfl rfl rfl rfl ?_; intro h H; conv => whnf) | (refine Hp.st H 1 rfl rfl rfl rfl rfl ?_; intro h H; conv => whnf) | (refine Hp.st H 2 rfl rfl rfl rfl rfl ?_; intro h H; conv => whnf) | (refine Hp.st H 3 rfl rfl rfl rfl rfl ?_; intro h H; conv => whnf) | (refine Hp.st H 4 rfl rfl rfl rfl rfl ?_; intro h H; conv => whnf) | (refine Hp.st H 5 rfl rfl rfl rfl rfl ?_; intro h H; conv => whnf) | (intro b h N; replace H := Hp.new H N; clear N; conv => whnf) | (refine Drawn.mk (by kernel_rfl) ?_; conv => whnf) | (refine FillK.row rfl ?_; conv => whnf) | (refine FillK.lit rfl ?_; conv => whnf) | (refine WrapK.i64 (by omega) (by omega) ?_; conv => whnf) | (refine WrapK.u64 (by omega) (by omega) ?_; conv => whnf) | (refine WrapK.u32 (by omega) (by omega) ?_; conv => whnf) | (refine WrapK.u8 (by omega) (by omega) ?_; conv => whnf) | (refine iteT (by omega) ?_; conv => whnf) | (refine iteF (by omega) ?_; conv => whnf) | (refine iteET (by omega) ?_; conv => whnf) | (refine iteEF (by omega) ?_; conv => whnf) | (refine iteNT (by omega) ?_; conv => whnf) | (refine iteNF (by omega) ?_; conv => whnf))
  refine ⟨H.keep, ?_⟩
  rw [tup_one, low8]
  congr 1
  unfold Mac6.group
  by_cases h : m.a0.toNat % 2 = 1
  · rw [h]; rfl
  · rw [decide_eq_false h]
    have : m.a0.toNat % 2 = 0 := by omega
    rw [this]; rfl

/-- Without a tag, but with something of one. -/
def Hdr.plain (h : Hdr) : Bool := !h.tagged && (decide (h.pcp ≠ 0) || h.dei || decide (h.vid ≠ 0))

def Hdr.check (h : Hdr) (n : Int) : Nat :=
  if n < 0 ∨ n > 1500 then 3 else if h.plain = true ∨ h.pcp < 0 ∨ h.pcp > 7 ∨ h.vid < 0 ∨ h.vid > 4094 then 1 else if h.src.group = true then 4
  else if (h.llc = true ∧ h.typ ≠ n) ∨ (h.llc = false ∧ (h.typ < 1536 ∨ h.typ > 65535 ∨ (h.typ = 33024 ∧ h.tagged = false))) then 4 else 0

theorem check_call (h0 : Heap) (h : Hdr) (n : Int) : CallK Try.prog 29 #[.agg h.cells.toArray, .int .i64 n] h0 fun v h' => Keep (fun _ => False) h0 h' ∧ v = .int .i64 (h.check n : Nat) := by
  obtain ⟨dst, src, tagged, pcp, dei, vid, typ, llc⟩ := h
  refine CallK.of_vc EW_ok [0, 1, 2, 4, 5, 23, 30, 52, 56] Try.func29 rfl (Nat.le_of_ble_eq_true rfl) ?_
  have H := Hp.start h0
  unfold Hdr.check Hdr.plain
  dsimp only
  cases tagged
  case' false =>
    by_cases c0 : pcp = 0
    case' pos =>
      cases dei
      case' false =>
        by_cases c1 : vid = 0
  all_goals
    conv => whnf
    repeat (first | (refine cnd_intro (by first | (simp; done) | (simp; omega) | omega | (simp only [Bool.and_eq_true, decide_eq_true_eq]; omega)) ?_; conv => whnf) | (refine Hp.ld H 0 rfl rfl ?_; conv => whnf) | (refine Hp.ld H 1 rfl rfl ?_; conv => whnf) | (refine Hp.ld H 2 rfl rfl ?_; conv => whnf) | (refine Hp.ld H 3 rfl rfl ?_; conv => whnf) | (refine Hp.ld H 4 rfl rfl ?_; conv => whnf) | (refine Hp.ld H 5 rfl rfl ?_; conv => whnf) | (refine Hp.st H 0 rfl rfl rfl rfl rfl ?_; intro h H; conv => whnf) | (refine Hp.st H 1 rfl rfl rfl rfl rfl ?_; intro h H; conv => whnf) | (refine Hp.st H 2 rfl rfl rfl rfl rfl ?_; intro h H; conv => whnf) | (refine Hp.st H 3 rfl rfl rfl rfl rfl ?_; intro h H; conv => whnf) | (refine Hp.st H 4 rfl rfl rfl rfl rfl ?_; intro h H; conv => whnf) | (refine Hp.st H 5 rfl rfl rfl rfl rfl ?_; intro h H; conv => whnf) | (intro b h N; replace H := Hp.new H N; clear N; conv => whnf) | (refine Drawn.mk (by kernel_rfl) ?_; conv => whnf) | (refine FillK.row rfl ?_; conv => whnf) | (refine FillK.lit rfl ?_; conv => whnf) | (refine WrapK.i64 (by omega) (by omega) ?_; conv => whnf) | (refine WrapK.u64 (by omega) (by omega) ?_; conv => whnf) | (refine WrapK.u32 (by omega) (by omega) ?_; conv => whnf) | (refine WrapK.u8 (by omega) (by omega) ?_; conv => whnf) | (refine iteT (by omega) ?_; conv => whnf) | (refine iteF (by omega) ?_; conv => whnf) | (refine iteET (by omega) ?_; conv => whnf) | (refine iteEF (by omega) ?_; conv => whnf) | (refine iteNT (by omega) ?_; conv => whnf) | (refine iteNF (by omega) ?_; conv => whnf))
    by_cases c2 : n < 0
    · conv => whnf
      repeat (first | (refine cnd_intro (by first | (simp; done) | (simp; omega) | omega | (simp only [Bool.and_eq_true, decide_eq_true_eq]; omega)) ?_; conv => whnf) | (refine Hp.ld H 0 rfl rfl ?_; conv => whnf) | (refine Hp.ld H 1 rfl rfl ?_; conv => whnf) | (refine Hp.ld H 2 rfl rfl ?_; conv => whnf) | (refine Hp.ld H 3 rfl rfl ?_; conv => whnf) | (refine Hp.ld H 4 rfl rfl ?_; conv => whnf) | (refine Hp.ld H 5 rfl rfl ?_; conv => whnf) | (refine Hp.st H 0 rfl rfl rfl rfl rfl ?_; intro h H; conv => whnf) | (refine Hp.st H 1 rfl rfl rfl rfl rfl ?_; intro h H; conv => whnf) | (refine Hp.st H 2 rfl rfl rfl rfl rfl ?_; intro h H; conv => whnf) | (refine Hp.st H 3 rfl rfl rfl rfl rfl ?_; intro h H; conv => whnf) | (refine Hp.st H 4 rfl rfl rfl rfl rfl ?_; intro h H; conv => whnf) | (refine Hp.st H 5 rfl rfl rfl rfl rfl ?_; intro h H; conv => whnf) | (intro b h N; replace H := Hp.new H N; clear N; conv => whnf) | (refine Drawn.mk (by kernel_rfl) ?_; conv => whnf) | (refine FillK.row rfl ?_; conv => whnf) | (refine FillK.lit rfl ?_; conv => whnf) | (refine WrapK.i64 (by omega) (by omega) ?_; conv => whnf) | (refine WrapK.u64 (by omega) (by omega) ?_; conv => whnf) | (refine WrapK.u32 (by omega) (by omega) ?_; conv => whnf) | (refine WrapK.u8 (by omega) (by omega) ?_; conv => whnf) | (refine iteT (by omega) ?_; conv => whnf) | (refine iteF (by omega) ?_; conv => whnf) | (refine iteET (by omega) ?_; conv => whnf) | (refine iteEF (by omega) ?_; conv => whnf) | (refine iteNT (by omega) ?_; conv => whnf) | (refine iteNF (by omega) ?_; conv => whnf))
      refine ⟨H.keep, ?_⟩
      (repeat (first | rw [if_pos (by first | omega | (simp; done) | (simp; omega))] | rw [if_neg (by first | omega | (simp; done) | (simp; omega))]))
      rfl
    by_cases c3 : n > 1500
    · conv => whnf
      repeat (first | (refine cnd_intro (by first | (simp; done) | (simp; omega) | omega | (simp only [Bool.and_eq_true, decide_eq_true_eq]; omega)) ?_; conv => whnf) | (refine Hp.ld H 0 rfl rfl ?_; conv => whnf) | (refine Hp.ld H 1 rfl rfl ?_; conv => whnf) | (refine Hp.ld H 2 rfl rfl ?_; conv => whnf) | (refine Hp.ld H 3 rfl rfl ?_; conv => whnf) | (refine Hp.ld H 4 rfl rfl ?_; conv => whnf) | (refine Hp.ld H 5 rfl rfl ?_; conv => whnf) | (refine Hp.st H 0 rfl rfl rfl rfl rfl ?_; intro h H; conv => whnf) | (refine Hp.st H 1 rfl rfl rfl rfl rfl ?_; intro h H; conv => whnf) | (refine Hp.st H 2 rfl rfl rfl rfl rfl ?_; intro h H; conv => whnf) | (refine Hp.st H 3 rfl rfl rfl rfl rfl ?_; intro h H; conv => whnf) | (refine Hp.st H 4 rfl rfl rfl rfl rfl ?_; intro h H; conv => whnf) | (refine Hp.st H 5 rfl rfl rfl rfl rfl ?_; intro h H; conv => whnf) | (intro b h N; replace H := Hp.new H N; clear N; conv => whnf) | (refine Drawn.mk (by kernel_rfl) ?_; conv => whnf) | (refine FillK.row rfl ?_; conv => whnf) | (refine FillK.lit rfl ?_; conv => whnf) | (refine WrapK.i64 (by omega) (by omega) ?_; conv => whnf) | (refine WrapK.u64 (by omega) (by omega) ?_; conv => whnf) | (refine WrapK.u32 (by omega) (by omega) ?_; conv => whnf) | (refine WrapK.u8 (by omega) (by omega) ?_; conv => whnf) | (refine iteT (by omega) ?_; conv => whnf) | (refine iteF (by omega) ?_; conv => whnf) | (refine iteET (by omega) ?_; conv => whnf) | (refine iteEF (by omega) ?_; conv => whnf) | (refine iteNT (by omega) ?_; conv => whnf) | (refine iteNF (by omega) ?_; conv => whnf))
      refine ⟨H.keep, ?_⟩
      (repeat (first | rw [if_pos (by first | omega | (simp; done) | (simp; omega))] | rw [if_neg (by first | omega | (simp; done) | (simp; omega))]))
      rfl
    by_cases d0 : pcp < 0
    · conv => whnf
      repeat (first | (refine cnd_intro (by first | (simp; done) | (simp; omega) | omega | (simp only [Bool.and_eq_true, decide_eq_true_eq]; omega)) ?_; conv => whnf) | (refine Hp.ld H 0 rfl rfl ?_; conv => whnf) | (refine Hp.ld H 1 rfl rfl ?_; conv => whnf) | (refine Hp.ld H 2 rfl rfl ?_; conv => whnf) | (refine Hp.ld H 3 rfl rfl ?_; conv => whnf) | (refine Hp.ld H 4 rfl rfl ?_; conv => whnf) | (refine Hp.ld H 5 rfl rfl ?_; conv => whnf) | (refine Hp.st H 0 rfl rfl rfl rfl rfl ?_; intro h H; conv => whnf) | (refine Hp.st H 1 rfl rfl rfl rfl rfl ?_; intro h H; conv => whnf) | (refine Hp.st H 2 rfl rfl rfl rfl rfl ?_; intro h H; conv => whnf) | (refine Hp.st H 3 rfl rfl rfl rfl rfl ?_; intro h H; conv => whnf) | (refine Hp.st H 4 rfl rfl rfl rfl rfl ?_; intro h H; conv => whnf) | (refine Hp.st H 5 rfl rfl rfl rfl rfl ?_; intro h H; conv => whnf) | (intro b h N; replace H := Hp.new H N; clear N; conv => whnf) | (refine Drawn.mk (by kernel_rfl) ?_; conv => whnf) | (refine FillK.row rfl ?_; conv => whnf) | (refine FillK.lit rfl ?_; conv => whnf) | (refine WrapK.i64 (by omega) (by omega) ?_; conv => whnf) | (refine WrapK.u64 (by omega) (by omega) ?_; conv => whnf) | (refine WrapK.u32 (by omega) (by omega) ?_; conv => whnf) | (refine WrapK.u8 (by omega) (by omega) ?_; conv => whnf) | (refine iteT (by omega) ?_; conv => whnf) | (refine iteF (by omega) ?_; conv => whnf) | (refine iteET (by omega) ?_; conv => whnf) | (refine iteEF (by omega) ?_; conv => whnf) | (refine iteNT (by omega) ?_; conv => whnf) | (refine iteNF (by omega) ?_; conv => whnf))
      refine ⟨H.keep, ?_⟩
      (repeat (first | rw [if_pos (by first | omega | (simp; done) | (simp; omega))] | rw [if_neg (by first | omega | (simp; done) | (simp; omega))]))
      rfl
    by_cases d1 : pcp > 7
    · conv => whnf
      repeat (first | (refine cnd_intro (by first | (simp; done) | (simp; omega) | omega | (simp only [Bool.and_eq_true, decide_eq_true_eq]; omega)) ?_; conv => whnf) | (refine Hp.ld H 0 rfl rfl ?_; conv => whnf) | (refine Hp.ld H 1 rfl rfl ?_; conv => whnf) | (refine Hp.ld H 2 rfl rfl ?_; conv => whnf) | (refine Hp.ld H 3 rfl rfl ?_; conv => whnf) | (refine Hp.ld H 4 rfl rfl ?_; conv => whnf) | (refine Hp.ld H 5 rfl rfl ?_; conv => whnf) | (refine Hp.st H 0 rfl rfl rfl rfl rfl ?_; intro h H; conv => whnf) | (refine Hp.st H 1 rfl rfl rfl rfl rfl ?_; intro h H; conv => whnf) | (refine Hp.st H 2 rfl rfl rfl rfl rfl ?_; intro h H; conv => whnf) | (refine Hp.st H 3 rfl rfl rfl rfl rfl ?_; intro h H; conv => whnf) | (refine Hp.st H 4 rfl rfl rfl rfl rfl ?_; intro h H; conv => whnf) | (refine Hp.st H 5 rfl rfl rfl rfl rfl ?_; intro h H; conv => whnf) | (intro b h N; replace H := Hp.new H N; clear N; conv => whnf) | (refine Drawn.mk (by kernel_rfl) ?_; conv => whnf) | (refine FillK.row rfl ?_; conv => whnf) | (refine FillK.lit rfl ?_; conv => whnf) | (refine WrapK.i64 (by omega) (by omega) ?_; conv => whnf) | (refine WrapK.u64 (by omega) (by omega) ?_; conv => whnf) | (refine WrapK.u32 (by omega) (by omega) ?_; conv => whnf) | (refine WrapK.u8 (by omega) (by omega) ?_; conv => whnf) | (refine iteT (by omega) ?_; conv => whnf) | (refine iteF (by omega) ?_; conv => whnf) | (refine iteET (by omega) ?_; conv => whnf) | (refine iteEF (by omega) ?_; conv => whnf) | (refine iteNT (by omega) ?_; conv => whnf) | (refine iteNF (by omega) ?_; conv => whnf))
      refine ⟨H.keep, ?_⟩
      (repeat (first | rw [if_pos (by first | omega | (simp; done) | (simp; omega))] | rw [if_neg (by first | omega | (simp; done) | (simp; omega))]))
      rfl
    by_cases d2 : vid < 0
    · conv => whnf
      repeat (first | (refine cnd_intro (by first | (simp; done) | (simp; omega) | omega | (simp only [Bool.and_eq_true, decide_eq_true_eq]; omega)) ?_; conv => whnf) | (refine Hp.ld H 0 rfl rfl ?_; conv => whnf) | (refine Hp.ld H 1 rfl rfl ?_; conv => whnf) | (refine Hp.ld H 2 rfl rfl ?_; conv => whnf) | (refine Hp.ld H 3 rfl rfl ?_; conv => whnf) | (refine Hp.ld H 4 rfl rfl ?_; conv => whnf) | (refine Hp.ld H 5 rfl rfl ?_; conv => whnf) | (refine Hp.st H 0 rfl rfl rfl rfl rfl ?_; intro h H; conv => whnf) | (refine Hp.st H 1 rfl rfl rfl rfl rfl ?_; intro h H; conv => whnf) | (refine Hp.st H 2 rfl rfl rfl rfl rfl ?_; intro h H; conv => whnf) | (refine Hp.st H 3 rfl rfl rfl rfl rfl ?_; intro h H; conv => whnf) | (refine Hp.st H 4 rfl rfl rfl rfl rfl ?_; intro h H; conv => whnf) | (refine Hp.st H 5 rfl rfl rfl rfl rfl ?_; intro h H; conv => whnf) | (intro b h N; replace H := Hp.new H N; clear N; conv => whnf) | (refine Drawn.mk (by kernel_rfl) ?_; conv => whnf) | (refine FillK.row rfl ?_; conv => whnf) | (refine FillK.lit rfl ?_; conv => whnf) | (refine WrapK.i64 (by omega) (by omega) ?_; conv => whnf) | (refine WrapK.u64 (by omega) (by omega) ?_; conv => whnf) | (refine WrapK.u32 (by omega) (by omega) ?_; conv => whnf) | (refine WrapK.u8 (by omega) (by omega) ?_; conv => whnf) | (refine iteT (by omega) ?_; conv => whnf) | (refine iteF (by omega) ?_; conv => whnf) | (refine iteET (by omega) ?_; conv => whnf) | (refine iteEF (by omega) ?_; conv => whnf) | (refine iteNT (by omega) ?_; conv => whnf) | (refine iteNF (by omega) ?_; conv => whnf))
      refine ⟨H.keep, ?_⟩
      (repeat (first | rw [if_pos (by first | omega | (simp; done) | (simp; omega))] | rw [if_neg (by first | omega | (simp; done) | (simp; omega))]))
      rfl
    by_cases d3 : vid > 4094
    · conv => whnf
      repeat (first | (refine cnd_intro (by first | (simp; done) | (simp; omega) | omega | (simp only [Bool.and_eq_true, decide_eq_true_eq]; omega)) ?_; conv => whnf) | (refine Hp.ld H 0 rfl rfl ?_; conv => whnf) | (refine Hp.ld H 1 rfl rfl ?_; conv => whnf) | (refine Hp.ld H 2 rfl rfl ?_; conv => whnf) | (refine Hp.ld H 3 rfl rfl ?_; conv => whnf) | (refine Hp.ld H 4 rfl rfl ?_; conv => whnf) | (refine Hp.ld H 5 rfl rfl ?_; conv => whnf) | (refine Hp.st H 0 rfl rfl rfl rfl rfl ?_; intro h H; conv => whnf) | (refine Hp.st H 1 rfl rfl rfl rfl rfl ?_; intro h H; conv => whnf) | (refine Hp.st H 2 rfl rfl rfl rfl rfl ?_; intro h H; conv => whnf) | (refine Hp.st H 3 rfl rfl rfl rfl rfl ?_; intro h H; conv => whnf) | (refine Hp.st H 4 rfl rfl rfl rfl rfl ?_; intro h H; conv => whnf) | (refine Hp.st H 5 rfl rfl rfl rfl rfl ?_; intro h H; conv => whnf) | (intro b h N; replace H := Hp.new H N; clear N; conv => whnf) | (refine Drawn.mk (by kernel_rfl) ?_; conv => whnf) | (refine FillK.row rfl ?_; conv => whnf) | (refine FillK.lit rfl ?_; conv => whnf) | (refine WrapK.i64 (by omega) (by omega) ?_; conv => whnf) | (refine WrapK.u64 (by omega) (by omega) ?_; conv => whnf) | (refine WrapK.u32 (by omega) (by omega) ?_; conv => whnf) | (refine WrapK.u8 (by omega) (by omega) ?_; conv => whnf) | (refine iteT (by omega) ?_; conv => whnf) | (refine iteF (by omega) ?_; conv => whnf) | (refine iteET (by omega) ?_; conv => whnf) | (refine iteEF (by omega) ?_; conv => whnf) | (refine iteNT (by omega) ?_; conv => whnf) | (refine iteNF (by omega) ?_; conv => whnf))
      refine ⟨H.keep, ?_⟩
      (repeat (first | rw [if_pos (by first | omega | (simp; done) | (simp; omega))] | rw [if_neg (by first | omega | (simp; done) | (simp; omega))]))
      rfl
    conv => whnf
    repeat (first | (refine cnd_intro (by first | (simp; done) | (simp; omega) | omega | (simp only [Bool.and_eq_true, decide_eq_true_eq]; omega)) ?_; conv => whnf) | (refine Hp.ld H 0 rfl rfl ?_; conv => whnf) | (refine Hp.ld H 1 rfl rfl ?_; conv => whnf) | (refine Hp.ld H 2 rfl rfl ?_; conv => whnf) | (refine Hp.ld H 3 rfl rfl ?_; conv => whnf) | (refine Hp.ld H 4 rfl rfl ?_; conv => whnf) | (refine Hp.ld H 5 rfl rfl ?_; conv => whnf) | (refine Hp.st H 0 rfl rfl rfl rfl rfl ?_; intro h H; conv => whnf) | (refine Hp.st H 1 rfl rfl rfl rfl rfl ?_; intro h H; conv => whnf) | (refine Hp.st H 2 rfl rfl rfl rfl rfl ?_; intro h H; conv => whnf) | (refine Hp.st H 3 rfl rfl rfl rfl rfl ?_; intro h H; conv => whnf) | (refine Hp.st H 4 rfl rfl rfl rfl rfl ?_; intro h H; conv => whnf) | (refine Hp.st H 5 rfl rfl rfl rfl rfl ?_; intro h H; conv => whnf) | (intro b h N; replace H := Hp.new H N; clear N; conv => whnf) | (refine Drawn.mk (by kernel_rfl) ?_; conv => whnf) | (refine FillK.row rfl ?_; conv => whnf) | (refine FillK.lit rfl ?_; conv => whnf) | (refine WrapK.i64 (by omega) (by omega) ?_; conv => whnf) | (refine WrapK.u64 (by omega) (by omega) ?_; conv => whnf) | (refine WrapK.u32 (by omega) (by omega) ?_; conv => whnf) | (refine WrapK.u8 (by omega) (by omega) ?_; conv => whnf) | (refine iteT (by omega) ?_; conv => whnf) | (refine iteF (by omega) ?_; conv => whnf) | (refine iteET (by omega) ?_; conv => whnf) | (refine iteEF (by omega) ?_; conv => whnf) | (refine iteNT (by omega) ?_; conv => whnf) | (refine iteNF (by omega) ?_; conv => whnf))
    try (refine ⟨H.keep, ?_⟩; (repeat (first | rw [if_pos (by first | omega | (simp; done) | (simp; omega))] | rw [if_neg (by first | omega | (simp; done) | (simp; omega))])); rfl)
  all_goals
    refine CallK.mono (group_call _ src) ?_
    rintro _ h2 ⟨k2, rfl⟩
    replace H := H.and k2
    generalize src.group = gb
    cases gb
    case' true =>
      conv => whnf
      repeat (first | (refine cnd_intro (by first | (simp; done) | (simp; omega) | omega | (simp only [Bool.and_eq_true, decide_eq_true_eq]; omega)) ?_; conv => whnf) | (refine Hp.ld H 0 rfl rfl ?_; conv => whnf) | (refine Hp.ld H 1 rfl rfl ?_; conv => whnf) | (refine Hp.ld H 2 rfl rfl ?_; conv => whnf) | (refine Hp.ld H 3 rfl rfl ?_; conv => whnf) | (refine Hp.ld H 4 rfl rfl ?_; conv => whnf) | (refine Hp.ld H 5 rfl rfl ?_; conv => whnf) | (refine Hp.st H 0 rfl rfl rfl rfl rfl ?_; intro h H; conv => whnf) | (refine Hp.st H 1 rfl rfl rfl rfl rfl ?_; intro h H; conv => whnf) | (refine Hp.st H 2 rfl rfl rfl rfl rfl ?_; intro h H; conv => whnf) | (refine Hp.st H 3 rfl rfl rfl rfl rfl ?_; intro h H; conv => whnf) | (refine Hp.st H 4 rfl rfl rfl rfl rfl ?_; intro h H; conv => whnf) | (refine Hp.st H 5 rfl rfl rfl rfl rfl ?_; intro h H; conv => whnf) | (intro b h N; replace H := Hp.new H N; clear N; conv => whnf) | (refine Drawn.mk (by kernel_rfl) ?_; conv => whnf) | (refine FillK.row rfl ?_; conv => whnf) | (refine FillK.lit rfl ?_; conv => whnf) | (refine WrapK.i64 (by omega) (by omega) ?_; conv => whnf) | (refine WrapK.u64 (by omega) (by omega) ?_; conv => whnf) | (refine WrapK.u32 (by omega) (by omega) ?_; conv => whnf) | (refine WrapK.u8 (by omega) (by omega) ?_; conv => whnf) | (refine iteT (by omega) ?_; conv => whnf) | (refine iteF (by omega) ?_; conv => whnf) | (refine iteET (by omega) ?_; conv => whnf) | (refine iteEF (by omega) ?_; conv => whnf) | (refine iteNT (by omega) ?_; conv => whnf) | (refine iteNF (by omega) ?_; conv => whnf))
      refine ⟨H.keep, ?_⟩
      (repeat (first | rw [if_pos (by first | omega | (simp; done) | (simp; omega))] | rw [if_neg (by first | omega | (simp; done) | (simp; omega))]))
      rfl
    cases llc
    case' true =>
      by_cases e0 : typ = n
      · conv => whnf
        repeat (first | (refine cnd_intro (by first | (simp; done) | (simp; omega) | omega | (simp only [Bool.and_eq_true, decide_eq_true_eq]; omega)) ?_; conv => whnf) | (refine Hp.ld H 0 rfl rfl ?_; conv => whnf) | (refine Hp.ld H 1 rfl rfl ?_; conv => whnf) | (refine Hp.ld H 2 rfl rfl ?_; conv => whnf) | (refine Hp.ld H 3 rfl rfl ?_; conv => whnf) | (refine Hp.ld H 4 rfl rfl ?_; conv => whnf) | (refine Hp.ld H 5 rfl rfl ?_; conv => whnf) | (refine Hp.st H 0 rfl rfl rfl rfl rfl ?_; intro h H; conv => whnf) | (refine Hp.st H 1 rfl rfl rfl rfl rfl ?_; intro h H; conv => whnf) | (refine Hp.st H 2 rfl rfl rfl rfl rfl ?_; intro h H; conv => whnf) | (refine Hp.st H 3 rfl rfl rfl rfl rfl ?_; intro h H; conv => whnf) | (refine Hp.st H 4 rfl rfl rfl rfl rfl ?_; intro h H; conv => whnf) | (refine Hp.st H 5 rfl rfl rfl rfl rfl ?_; intro h H; conv => whnf) | (intro b h N; replace H := Hp.new H N; clear N; conv => whnf) | (refine Drawn.mk (by kernel_rfl) ?_; conv => whnf) | (refine FillK.row rfl ?_; conv => whnf) | (refine FillK.lit rfl ?_; conv => whnf) | (refine WrapK.i64 (by omega) (by omega) ?_; conv => whnf) | (refine WrapK.u64 (by omega) (by omega) ?_; conv => whnf) | (refine WrapK.u32 (by omega) (by omega) ?_; conv => whnf) | (refine WrapK.u8 (by omega) (by omega) ?_; conv => whnf) | (refine iteT (by omega) ?_; conv => whnf) | (refine iteF (by omega) ?_; conv => whnf) | (refine iteET (by omega) ?_; conv => whnf) | (refine iteEF (by omega) ?_; conv => whnf) | (refine iteNT (by omega) ?_; conv => whnf) | (refine iteNF (by omega) ?_; conv => whnf))
        refine ⟨H.keep, ?_⟩
        (repeat (first | rw [if_pos (by first | omega | (simp; done) | (simp; omega))] | rw [if_neg (by first | omega | (simp; done) | (simp; omega))]))
        rfl
      · conv => whnf
        repeat (first | (refine cnd_intro (by first | (simp; done) | (simp; omega) | omega | (simp only [Bool.and_eq_true, decide_eq_true_eq]; omega)) ?_; conv => whnf) | (refine Hp.ld H 0 rfl rfl ?_; conv => whnf) | (refine Hp.ld H 1 rfl rfl ?_; conv => whnf) | (refine Hp.ld H 2 rfl rfl ?_; conv => whnf) | (refine Hp.ld H 3 rfl rfl ?_; conv => whnf) | (refine Hp.ld H 4 rfl rfl ?_; conv => whnf) | (refine Hp.ld H 5 rfl rfl ?_; conv => whnf) | (refine Hp.st H 0 rfl rfl rfl rfl rfl ?_; intro h H; conv => whnf) | (refine Hp.st H 1 rfl rfl rfl rfl rfl ?_; intro h H; conv => whnf) | (refine Hp.st H 2 rfl rfl rfl rfl rfl ?_; intro h H; conv => whnf) | (refine Hp.st H 3 rfl rfl rfl rfl rfl ?_; intro h H; conv => whnf) | (refine Hp.st H 4 rfl rfl rfl rfl rfl ?_; intro h H; conv => whnf) | (refine Hp.st H 5 rfl rfl rfl rfl rfl ?_; intro h H; conv => whnf) | (intro b h N; replace H := Hp.new H N; clear N; conv => whnf) | (refine Drawn.mk (by kernel_rfl) ?_; conv => whnf) | (refine FillK.row rfl ?_; conv => whnf) | (refine FillK.lit rfl ?_; conv => whnf) | (refine WrapK.i64 (by omega) (by omega) ?_; conv => whnf) | (refine WrapK.u64 (by omega) (by omega) ?_; conv => whnf) | (refine WrapK.u32 (by omega) (by omega) ?_; conv => whnf) | (refine WrapK.u8 (by omega) (by omega) ?_; conv => whnf) | (refine iteT (by omega) ?_; conv => whnf) | (refine iteF (by omega) ?_; conv => whnf) | (refine iteET (by omega) ?_; conv => whnf) | (refine iteEF (by omega) ?_; conv => whnf) | (refine iteNT (by omega) ?_; conv => whnf) | (refine iteNF (by omega) ?_; conv => whnf))
        refine ⟨H.keep, ?_⟩
        (repeat (first | rw [if_pos (by first | omega | (simp; done) | (simp; omega))] | rw [if_neg (by first | omega | (simp; done) | (simp; omega))]))
        rfl
    by_cases e1 : typ < 1536
    · conv => whnf
      repeat (first | (refine cnd_intro (by first | (simp; done) | (simp; omega) | omega | (simp only [Bool.and_eq_true, decide_eq_true_eq]; omega)) ?_; conv => whnf) | (refine Hp.ld H 0 rfl rfl ?_; conv => whnf) | (refine Hp.ld H 1 rfl rfl ?_; conv => whnf) | (refine Hp.ld H 2 rfl rfl ?_; conv => whnf) | (refine Hp.ld H 3 rfl rfl ?_; conv => whnf) | (refine Hp.ld H 4 rfl rfl ?_; conv => whnf) | (refine Hp.ld H 5 rfl rfl ?_; conv => whnf) | (refine Hp.st H 0 rfl rfl rfl rfl rfl ?_; intro h H; conv => whnf) | (refine Hp.st H 1 rfl rfl rfl rfl rfl ?_; intro h H; conv => whnf) | (refine Hp.st H 2 rfl rfl rfl rfl rfl ?_; intro h H; conv => whnf) | (refine Hp.st H 3 rfl rfl rfl rfl rfl ?_; intro h H; conv => whnf) | (refine Hp.st H 4 rfl rfl rfl rfl rfl ?_; intro h H; conv => whnf) | (refine Hp.st H 5 rfl rfl rfl rfl rfl ?_; intro h H; conv => whnf) | (intro b h N; replace H := Hp.new H N; clear N; conv => whnf) | (refine Drawn.mk (by kernel_rfl) ?_; conv => whnf) | (refine FillK.row rfl ?_; conv => whnf) | (refine FillK.lit rfl ?_; conv => whnf) | (refine WrapK.i64 (by omega) (by omega) ?_; conv => whnf) | (refine WrapK.u64 (by omega) (by omega) ?_; conv => whnf) | (refine WrapK.u32 (by omega) (by omega) ?_; conv => whnf) | (refine WrapK.u8 (by omega) (by omega) ?_; conv => whnf) | (refine iteT (by omega) ?_; conv => whnf) | (refine iteF (by omega) ?_; conv => whnf) | (refine iteET (by omega) ?_; conv => whnf) | (refine iteEF (by omega) ?_; conv => whnf) | (refine iteNT (by omega) ?_; conv => whnf) | (refine iteNF (by omega) ?_; conv => whnf))
      refine ⟨H.keep, ?_⟩
      (repeat (first | rw [if_pos (by first | omega | (simp; done) | (simp; omega))] | rw [if_neg (by first | omega | (simp; done) | (simp; omega))]))
      rfl
    by_cases e2 : typ > 65535
    · conv => whnf
      repeat (first | (refine cnd_intro (by first | (simp; done) | (simp; omega) | omega | (simp only [Bool.and_eq_true, decide_eq_true_eq]; omega)) ?_; conv => whnf) | (refine Hp.ld H 0 rfl rfl ?_; conv => whnf) | (refine Hp.ld H 1 rfl rfl ?_; conv => whnf) | (refine Hp.ld H 2 rfl rfl ?_; conv => whnf) | (refine Hp.ld H 3 rfl rfl ?_; conv => whnf) | (refine Hp.ld H 4 rfl rfl ?_; conv => whnf) | (refine Hp.ld H 5 rfl rfl ?_; conv => whnf) | (refine Hp.st H 0 rfl rfl rfl rfl rfl ?_; intro h H; conv => whnf) | (refine Hp.st H 1 rfl rfl rfl rfl rfl ?_; intro h H; conv => whnf) | (refine Hp.st H 2 rfl rfl rfl rfl rfl ?_; intro h H; conv => whnf) | (refine Hp.st H 3 rfl rfl rfl rfl rfl ?_; intro h H; conv => whnf) | (refine Hp.st H 4 rfl rfl rfl rfl rfl ?_; intro h H; conv => whnf) | (refine Hp.st H 5 rfl rfl rfl rfl rfl ?_; intro h H; conv => whnf) | (intro b h N; replace H := Hp.new H N; clear N; conv => whnf) | (refine Drawn.mk (by kernel_rfl) ?_; conv => whnf) | (refine FillK.row rfl ?_; conv => whnf) | (refine FillK.lit rfl ?_; conv => whnf) | (refine WrapK.i64 (by omega) (by omega) ?_; conv => whnf) | (refine WrapK.u64 (by omega) (by omega) ?_; conv => whnf) | (refine WrapK.u32 (by omega) (by omega) ?_; conv => whnf) | (refine WrapK.u8 (by omega) (by omega) ?_; conv => whnf) | (refine iteT (by omega) ?_; conv => whnf) | (refine iteF (by omega) ?_; conv => whnf) | (refine iteET (by omega) ?_; conv => whnf) | (refine iteEF (by omega) ?_; conv => whnf) | (refine iteNT (by omega) ?_; conv => whnf) | (refine iteNF (by omega) ?_; conv => whnf))
      refine ⟨H.keep, ?_⟩
      (repeat (first | rw [if_pos (by first | omega | (simp; done) | (simp; omega))] | rw [if_neg (by first | omega | (simp; done) | (simp; omega))]))
      rfl
    by_cases e3 : typ = 33024
    · conv => whnf
      repeat (first | (refine cnd_intro (by first | (simp; done) | (simp; omega) | omega | (simp only [Bool.and_eq_true, decide_eq_true_eq]; omega)) ?_; conv => whnf) | (refine Hp.ld H 0 rfl rfl ?_; conv => whnf) | (refine Hp.ld H 1 rfl rfl ?_; conv => whnf) | (refine Hp.ld H 2 rfl rfl ?_; conv => whnf) | (refine Hp.ld H 3 rfl rfl ?_; conv => whnf) | (refine Hp.ld H 4 rfl rfl ?_; conv => whnf) | (refine Hp.ld H 5 rfl rfl ?_; conv => whnf) | (refine Hp.st H 0 rfl rfl rfl rfl rfl ?_; intro h H; conv => whnf) | (refine Hp.st H 1 rfl rfl rfl rfl rfl ?_; intro h H; conv => whnf) | (refine Hp.st H 2 rfl rfl rfl rfl rfl ?_; intro h H; conv => whnf) | (refine Hp.st H 3 rfl rfl rfl rfl rfl ?_; intro h H; conv => whnf) | (refine Hp.st H 4 rfl rfl rfl rfl rfl ?_; intro h H; conv => whnf) | (refine Hp.st H 5 rfl rfl rfl rfl rfl ?_; intro h H; conv => whnf) | (intro b h N; replace H := Hp.new H N; clear N; conv => whnf) | (refine Drawn.mk (by kernel_rfl) ?_; conv => whnf) | (refine FillK.row rfl ?_; conv => whnf) | (refine FillK.lit rfl ?_; conv => whnf) | (refine WrapK.i64 (by omega) (by omega) ?_; conv => whnf) | (refine WrapK.u64 (by omega) (by omega) ?_; conv => whnf) | (refine WrapK.u32 (by omega) (by omega) ?_; conv => whnf) | (refine WrapK.u8 (by omega) (by omega) ?_; conv => whnf) | (refine iteT (by omega) ?_; conv => whnf) | (refine iteF (by omega) ?_; conv => whnf) | (refine iteET (by omega) ?_; conv => whnf) | (refine iteEF (by omega) ?_; conv => whnf) | (refine iteNT (by omega) ?_; conv => whnf) | (refine iteNF (by omega) ?_; conv => whnf))
      refine ⟨H.keep, ?_⟩
      (repeat (first | rw [if_pos (by first | omega | (simp; done) | (simp; omega))] | rw [if_neg (by first | omega | (simp; done) | (simp; omega))]))
      rfl
    · conv => whnf
      repeat (first | (refine cnd_intro (by first | (simp; done) | (simp; omega) | omega | (simp only [Bool.and_eq_true, decide_eq_true_eq]; omega)) ?_; conv => whnf) | (refine Hp.ld H 0 rfl rfl ?_; conv => whnf) | (refine Hp.ld H 1 rfl rfl ?_; conv => whnf) | (refine Hp.ld H 2 rfl rfl ?_; conv => whnf) | (refine Hp.ld H 3 rfl rfl ?_; conv => whnf) | (refine Hp.ld H 4 rfl rfl ?_; conv => whnf) | (refine Hp.ld H 5 rfl rfl ?_; conv => whnf) | (refine Hp.st H 0 rfl rfl rfl rfl rfl ?_; intro h H; conv => whnf) | (refine Hp.st H 1 rfl rfl rfl rfl rfl ?_; intro h H; conv => whnf) | (refine Hp.st H 2 rfl rfl rfl rfl rfl ?_; intro h H; conv => whnf) | (refine Hp.st H 3 rfl rfl rfl rfl rfl ?_; intro h H; conv => whnf) | (refine Hp.st H 4 rfl rfl rfl rfl rfl ?_; intro h H; conv => whnf) | (refine Hp.st H 5 rfl rfl rfl rfl rfl ?_; intro h H; conv => whnf) | (intro b h N; replace H := Hp.new H N; clear N; conv => whnf) | (refine Drawn.mk (by kernel_rfl) ?_; conv => whnf) | (refine FillK.row rfl ?_; conv => whnf) | (refine FillK.lit rfl ?_; conv => whnf) | (refine WrapK.i64 (by omega) (by omega) ?_; conv => whnf) | (refine WrapK.u64 (by omega) (by omega) ?_; conv => whnf) | (refine WrapK.u32 (by omega) (by omega) ?_; conv => whnf) | (refine WrapK.u8 (by omega) (by omega) ?_; conv => whnf) | (refine iteT (by omega) ?_; conv => whnf) | (refine iteF (by omega) ?_; conv => whnf) | (refine iteET (by omega) ?_; conv => whnf) | (refine iteEF (by omega) ?_; conv => whnf) | (refine iteNT (by omega) ?_; conv => whnf) | (refine iteNF (by omega) ?_; conv => whnf))
      refine ⟨H.keep, ?_⟩
      (repeat (first | rw [if_pos (by first | omega | (simp; done) | (simp; omega))] | rw [if_neg (by first | omega | (simp; done) | (simp; omega))]))
      rfl

end Go.Proofs.Ytkinjdnjhnljhaa
