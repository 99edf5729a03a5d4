import Derived.Test.YtcjilkemfmhkgaaCom
namespace Go.Proofs.Ytcjilkemfmhkgaa
open Go.Vc
set_option maxRecDepth 10000
set_option maxHeartbeats 4000000

/-! ### vlan: what is read of a table -/

structure VPort where
  accept : Int
  pvid : Int
  pcp : Int
  filter : Bool

def VPort.cells (p : VPort) : List Value := [.int .i64 p.accept, .int .i64 p.pvid, .int .i64 p.pcp, .bool p.filter]

structure VRow where
  vid : Int
  mem : Int
  pl : Int

def VRow.v (x : VRow) : List Value := [.int .i64 x.vid]
def VRow.m (x : VRow) : List Value := [.int .i64 x.mem]
def VRow.p (x : VRow) : List Value := [.int .i64 x.pl]

/-- A table that lies in a heap. -/
structure VtV (h : Heap) (g : Nat) (s0 s1 s2 s3 : Value) (ps : List VPort) (T : List VRow) : Prop where
  tab : h[g]? = some (.cells [s0, s1, s2, s3].toArray 56 (0, 0))
  ports : RowsV VPort.cells 4 h s0 ps
  vids : RowsV VRow.v 1 h s1 T
  mems : RowsV VRow.m 1 h s2 T
  plains : RowsV VRow.p 1 h s3 T

theorem VtV.keep {h h' : Heap} {g : Nat} {s0 s1 s2 s3 : Value} {ps : List VPort} {T : List VRow} (x : VtV h g s0 s1 s2 s3 ps T) (k : Keep (fun _ => False) h h') : VtV h' g s0 s1 s2 s3 ps T :=
  ⟨(k.old g (lt_of_get x.tab) (fun x => x)).trans x.tab, x.ports.keep k, x.vids.keep k, x.mems.keep k, x.plains.keep k⟩

def VRow.isV (v : Int) (x : VRow) : Bool := decide (x.vid = v)

theorem at_call (h0 : Heap) (g : Nat) (s0 s1 s2 s3 : Value) (ps : List VPort) (T : List VRow) (v : Int) (hs : VtV h0 g s0 s1 s2 s3 ps T) (hl : T.length ≤ 9223372036854775807) :
    CallK Try.prog 17 #[.pointer (some ⟨g, 0, none⟩), .int .i64 v] h0 fun w h' => Keep (fun _ => False) h0 h' ∧ ∃ n : Int, w = .int .i64 n ∧ FirstAt (VRow.isV v) T n := by
  obtain ⟨ht, _, hr, _, _⟩ := hs
  obtain ⟨A, c, rfl, hc', _⟩ := hr.out
  refine CallK.of_vc EW_ok [0, 1, 4, 5, 6, 10, 11, 12, 13, 19] Try.func17 rfl (Nat.le_of_ble_eq_true rfl) ?_
  have H := Hp.start h0
  conv => whnf
  repeat ((first | refine cnd_intro (by first | (simp; done) | (simp; omega) | omega | (simp only [Bool.and_eq_true, decide_eq_true_eq]; omega)) ?_ | refine Hp.ld H 0 rfl rfl ?_ | refine Hp.ld H 1 rfl rfl ?_ | refine Hp.ld H 2 rfl rfl ?_ | refine Hp.ld H 3 rfl rfl ?_ | refine Hp.ld H 4 rfl rfl ?_ | refine Hp.ld H 5 rfl rfl ?_ | (refine Hp.st H 0 rfl rfl rfl rfl rfl ?_; intro h H) | (refine Hp.st H 1 rfl rfl rfl rfl rfl ?_; intro h H) | (refine Hp.st H 2 rfl rfl rfl rfl rfl ?_; intro h H) | (refine Hp.st H 3 rfl rfl rfl rfl rfl ?_; intro h H) | (refine Hp.st H 4 rfl rfl rfl rfl rfl ?_; intro h H) | (refine Hp.st H 5 rfl rfl rfl rfl rfl ?_; intro h H) | (intro b h N; replace H := Hp.new H N; clear N) | refine Drawn.mk (by kernel_rfl) ?_ | refine FillK.row rfl ?_ | refine FillK.lit rfl ?_ | refine WrapK.i64 (by omega) (by omega) ?_ | refine WrapK.u64 (by omega) (by omega) ?_ | refine WrapK.u32 (by omega) (by omega) ?_ | refine WrapK.u8 (by omega) (by omega) ?_ | refine iteT (by omega) ?_ | refine iteF (by omega) ?_ | refine iteET (by omega) ?_ | refine iteEF (by omega) ?_ | refine iteNT (by omega) ?_ | refine iteNF (by omega) ?_); conv => whnf)
  refine ldO H ht rfl ?_
  conv => whnf
  repeat ((first | refine cnd_intro (by first | (simp; done) | (simp; omega) | omega | (simp only [Bool.and_eq_true, decide_eq_true_eq]; omega)) ?_ | refine Hp.ld H 0 rfl rfl ?_ | refine Hp.ld H 1 rfl rfl ?_ | refine Hp.ld H 2 rfl rfl ?_ | refine Hp.ld H 3 rfl rfl ?_ | refine Hp.ld H 4 rfl rfl ?_ | refine Hp.ld H 5 rfl rfl ?_ | (refine Hp.st H 0 rfl rfl rfl rfl rfl ?_; intro h H) | (refine Hp.st H 1 rfl rfl rfl rfl rfl ?_; intro h H) | (refine Hp.st H 2 rfl rfl rfl rfl rfl ?_; intro h H) | (refine Hp.st H 3 rfl rfl rfl rfl rfl ?_; intro h H) | (refine Hp.st H 4 rfl rfl rfl rfl rfl ?_; intro h H) | (refine Hp.st H 5 rfl rfl rfl rfl rfl ?_; intro h H) | (intro b h N; replace H := Hp.new H N; clear N) | refine Drawn.mk (by kernel_rfl) ?_ | refine FillK.row rfl ?_ | refine FillK.lit rfl ?_ | refine WrapK.i64 (by omega) (by omega) ?_ | refine WrapK.u64 (by omega) (by omega) ?_ | refine WrapK.u32 (by omega) (by omega) ?_ | refine WrapK.u8 (by omega) (by omega) ?_ | refine iteT (by omega) ?_ | refine iteF (by omega) ?_ | refine iteET (by omega) ?_ | refine iteEF (by omega) ?_ | refine iteNT (by omega) ?_ | refine iteNF (by omega) ?_); conv => whnf)
  refine ⟨Nat, [0, 1, 10, 11], fun i => [(12, .int .i64 (i : Nat))], fun i h' => i ≤ T.length ∧ (T.take i).any (VRow.isV v) = false ∧ Hp h0 h' [], fun i => T.length - i, ?_⟩
  conv => whnf
  refine ⟨⟨0, ⟨rfl, trivial⟩, by omega, rfl, H⟩, ?_⟩
  clear H
  rintro i h2 ⟨iA, iB, H⟩
  by_cases ci : i < T.length
  · obtain ⟨x, hx⟩ := list_at ci
    have hat := any_take (p := VRow.isV v) hx
    rw [iB, Bool.false_or] at hat
    obtain ⟨bb, oo, rfl⟩ := hr.some (by omega)
    by_cases c1 : x.vid = v
    · conv => whnf
      repeat ((first | refine cnd_intro (by first | (simp; done) | (simp; omega) | omega | (simp only [Bool.and_eq_true, decide_eq_true_eq]; omega)) ?_ | refine Hp.ld H 0 rfl rfl ?_ | refine Hp.ld H 1 rfl rfl ?_ | refine Hp.ld H 2 rfl rfl ?_ | refine Hp.ld H 3 rfl rfl ?_ | refine Hp.ld H 4 rfl rfl ?_ | refine Hp.ld H 5 rfl rfl ?_ | (refine Hp.st H 0 rfl rfl rfl rfl rfl ?_; intro h H) | (refine Hp.st H 1 rfl rfl rfl rfl rfl ?_; intro h H) | (refine Hp.st H 2 rfl rfl rfl rfl rfl ?_; intro h H) | (refine Hp.st H 3 rfl rfl rfl rfl rfl ?_; intro h H) | (refine Hp.st H 4 rfl rfl rfl rfl rfl ?_; intro h H) | (refine Hp.st H 5 rfl rfl rfl rfl rfl ?_; intro h H) | (intro b h N; replace H := Hp.new H N; clear N) | refine Drawn.mk (by kernel_rfl) ?_ | refine FillK.row rfl ?_ | refine FillK.lit rfl ?_ | refine WrapK.i64 (by omega) (by omega) ?_ | refine WrapK.u64 (by omega) (by omega) ?_ | refine WrapK.u32 (by omega) (by omega) ?_ | refine WrapK.u8 (by omega) (by omega) ?_ | refine iteT (by omega) ?_ | refine iteF (by omega) ?_ | refine iteET (by omega) ?_ | refine iteEF (by omega) ?_ | refine iteNT (by omega) ?_ | refine iteNF (by omega) ?_); conv => whnf)
      refine rows_ld1 (hr.keep H.keep) hx rfl rfl rfl rfl (by first | omega | (simp; done) | (simp; omega)) ?_
      conv => whnf
      repeat ((first | refine cnd_intro (by first | (simp; done) | (simp; omega) | omega | (simp only [Bool.and_eq_true, decide_eq_true_eq]; omega)) ?_ | refine Hp.ld H 0 rfl rfl ?_ | refine Hp.ld H 1 rfl rfl ?_ | refine Hp.ld H 2 rfl rfl ?_ | refine Hp.ld H 3 rfl rfl ?_ | refine Hp.ld H 4 rfl rfl ?_ | refine Hp.ld H 5 rfl rfl ?_ | (refine Hp.st H 0 rfl rfl rfl rfl rfl ?_; intro h H) | (refine Hp.st H 1 rfl rfl rfl rfl rfl ?_; intro h H) | (refine Hp.st H 2 rfl rfl rfl rfl rfl ?_; intro h H) | (refine Hp.st H 3 rfl rfl rfl rfl rfl ?_; intro h H) | (refine Hp.st H 4 rfl rfl rfl rfl rfl ?_; intro h H) | (refine Hp.st H 5 rfl rfl rfl rfl rfl ?_; intro h H) | (intro b h N; replace H := Hp.new H N; clear N) | refine Drawn.mk (by kernel_rfl) ?_ | refine FillK.row rfl ?_ | refine FillK.lit rfl ?_ | refine WrapK.i64 (by omega) (by omega) ?_ | refine WrapK.u64 (by omega) (by omega) ?_ | refine WrapK.u32 (by omega) (by omega) ?_ | refine WrapK.u8 (by omega) (by omega) ?_ | refine iteT (by omega) ?_ | refine iteF (by omega) ?_ | refine iteET (by omega) ?_ | refine iteEF (by omega) ?_ | refine iteNT (by omega) ?_ | refine iteNF (by omega) ?_); conv => whnf)
      exact ⟨H.keep, (i : Int), rfl, .inr ⟨i, x, rfl, hx, decide_eq_true c1, iB⟩⟩
    · rw [show VRow.isV v x = false from decide_eq_false c1] at hat
      conv => whnf
      repeat ((first | refine cnd_intro (by first | (simp; done) | (simp; omega) | omega | (simp only [Bool.and_eq_true, decide_eq_true_eq]; omega)) ?_ | refine Hp.ld H 0 rfl rfl ?_ | refine Hp.ld H 1 rfl rfl ?_ | refine Hp.ld H 2 rfl rfl ?_ | refine Hp.ld H 3 rfl rfl ?_ | refine Hp.ld H 4 rfl rfl ?_ | refine Hp.ld H 5 rfl rfl ?_ | (refine Hp.st H 0 rfl rfl rfl rfl rfl ?_; intro h H) | (refine Hp.st H 1 rfl rfl rfl rfl rfl ?_; intro h H) | (refine Hp.st H 2 rfl rfl rfl rfl rfl ?_; intro h H) | (refine Hp.st H 3 rfl rfl rfl rfl rfl ?_; intro h H) | (refine Hp.st H 4 rfl rfl rfl rfl rfl ?_; intro h H) | (refine Hp.st H 5 rfl rfl rfl rfl rfl ?_; intro h H) | (intro b h N; replace H := Hp.new H N; clear N) | refine Drawn.mk (by kernel_rfl) ?_ | refine FillK.row rfl ?_ | refine FillK.lit rfl ?_ | refine WrapK.i64 (by omega) (by omega) ?_ | refine WrapK.u64 (by omega) (by omega) ?_ | refine WrapK.u32 (by omega) (by omega) ?_ | refine WrapK.u8 (by omega) (by omega) ?_ | refine iteT (by omega) ?_ | refine iteF (by omega) ?_ | refine iteET (by omega) ?_ | refine iteEF (by omega) ?_ | refine iteNT (by omega) ?_ | refine iteNF (by omega) ?_); conv => whnf)
      refine rows_ld1 (hr.keep H.keep) hx rfl rfl rfl rfl (by first | omega | (simp; done) | (simp; omega)) ?_
      conv => whnf
      repeat ((first | refine cnd_intro (by first | (simp; done) | (simp; omega) | omega | (simp only [Bool.and_eq_true, decide_eq_true_eq]; omega)) ?_ | refine Hp.ld H 0 rfl rfl ?_ | refine Hp.ld H 1 rfl rfl ?_ | refine Hp.ld H 2 rfl rfl ?_ | refine Hp.ld H 3 rfl rfl ?_ | refine Hp.ld H 4 rfl rfl ?_ | refine Hp.ld H 5 rfl rfl ?_ | (refine Hp.st H 0 rfl rfl rfl rfl rfl ?_; intro h H) | (refine Hp.st H 1 rfl rfl rfl rfl rfl ?_; intro h H) | (refine Hp.st H 2 rfl rfl rfl rfl rfl ?_; intro h H) | (refine Hp.st H 3 rfl rfl rfl rfl rfl ?_; intro h H) | (refine Hp.st H 4 rfl rfl rfl rfl rfl ?_; intro h H) | (refine Hp.st H 5 rfl rfl rfl rfl rfl ?_; intro h H) | (intro b h N; replace H := Hp.new H N; clear N) | refine Drawn.mk (by kernel_rfl) ?_ | refine FillK.row rfl ?_ | refine FillK.lit rfl ?_ | refine WrapK.i64 (by omega) (by omega) ?_ | refine WrapK.u64 (by omega) (by omega) ?_ | refine WrapK.u32 (by omega) (by omega) ?_ | refine WrapK.u8 (by omega) (by omega) ?_ | refine iteT (by omega) ?_ | refine iteF (by omega) ?_ | refine iteET (by omega) ?_ | refine iteEF (by omega) ?_ | refine iteNT (by omega) ?_ | refine iteNF (by omega) ?_); conv => whnf)
      exact ⟨i + 1, ⟨(by first | rfl | (show Value.int .i64 _ = _; congr 1; omega) | (show Value.int .i64 _ = _; rw [wrap64_id (by omega) (by omega)]; first | rfl | (congr 1; omega))), trivial⟩, (by repeat (first | exact trivial | refine ⟨rfl, ?_⟩)), ⟨by omega, hat, H⟩, by show T.length - (i + 1) < T.length - i; omega⟩
  · have e : T.take i = T := List.take_of_length_le (by omega)
    rw [e] at iB
    conv => whnf
    repeat ((first | refine cnd_intro (by first | (simp; done) | (simp; omega) | omega | (simp only [Bool.and_eq_true, decide_eq_true_eq]; omega)) ?_ | refine Hp.ld H 0 rfl rfl ?_ | refine Hp.ld H 1 rfl rfl ?_ | refine Hp.ld H 2 rfl rfl ?_ | refine Hp.ld H 3 rfl rfl ?_ | refine Hp.ld H 4 rfl rfl ?_ | refine Hp.ld H 5 rfl rfl ?_ | (refine Hp.st H 0 rfl rfl rfl rfl rfl ?_; intro h H) | (refine Hp.st H 1 rfl rfl rfl rfl rfl ?_; intro h H) | (refine Hp.st H 2 rfl rfl rfl rfl rfl ?_; intro h H) | (refine Hp.st H 3 rfl rfl rfl rfl rfl ?_; intro h H) | (refine Hp.st H 4 rfl rfl rfl rfl rfl ?_; intro h H) | (refine Hp.st H 5 rfl rfl rfl rfl rfl ?_; intro h H) | (intro b h N; replace H := Hp.new H N; clear N) | refine Drawn.mk (by kernel_rfl) ?_ | refine FillK.row rfl ?_ | refine FillK.lit rfl ?_ | refine WrapK.i64 (by omega) (by omega) ?_ | refine WrapK.u64 (by omega) (by omega) ?_ | refine WrapK.u32 (by omega) (by omega) ?_ | refine WrapK.u8 (by omega) (by omega) ?_ | refine iteT (by omega) ?_ | refine iteF (by omega) ?_ | refine iteET (by omega) ?_ | refine iteEF (by omega) ?_ | refine iteNT (by omega) ?_ | refine iteNF (by omega) ?_); conv => whnf)
    exact ⟨H.keep, -1, rfl, .inl ⟨rfl, iB⟩⟩

def memT (v : Int) (T : List VRow) : Int := match T.find? (VRow.isV v) with
  | some x => x.mem
  | none => 0
def plainT (v : Int) (T : List VRow) : Int := match T.find? (VRow.isV v) with
  | some x => x.pl
  | none => 0

theorem members_call (h0 : Heap) (g : Nat) (s0 s1 s2 s3 : Value) (ps : List VPort) (T : List VRow) (v : Int) (hs : VtV h0 g s0 s1 s2 s3 ps T) (hl : T.length ≤ 9223372036854775807) :
    CallK Try.prog 52 #[.pointer (some ⟨g, 0, none⟩), .int .i64 v] h0 fun w h' => Keep (fun _ => False) h0 h' ∧ w = .int .i64 (memT v T) := by
  refine CallK.of_vc EW_ok [0, 1, 4, 5, 10] Try.func52 rfl (Nat.le_of_ble_eq_true rfl) ?_
  have H := Hp.start h0
  obtain ⟨A, c, hse, hc', _⟩ := hs.mems.out
  conv => whnf
  repeat ((first | refine cnd_intro (by first | (simp; done) | (simp; omega) | omega | (simp only [Bool.and_eq_true, decide_eq_true_eq]; omega)) ?_ | refine Hp.ld H 0 rfl rfl ?_ | refine Hp.ld H 1 rfl rfl ?_ | refine Hp.ld H 2 rfl rfl ?_ | refine Hp.ld H 3 rfl rfl ?_ | refine Hp.ld H 4 rfl rfl ?_ | refine Hp.ld H 5 rfl rfl ?_ | (refine Hp.st H 0 rfl rfl rfl rfl rfl ?_; intro h H) | (refine Hp.st H 1 rfl rfl rfl rfl rfl ?_; intro h H) | (refine Hp.st H 2 rfl rfl rfl rfl rfl ?_; intro h H) | (refine Hp.st H 3 rfl rfl rfl rfl rfl ?_; intro h H) | (refine Hp.st H 4 rfl rfl rfl rfl rfl ?_; intro h H) | (refine Hp.st H 5 rfl rfl rfl rfl rfl ?_; intro h H) | (intro b h N; replace H := Hp.new H N; clear N) | refine Drawn.mk (by kernel_rfl) ?_ | refine FillK.row rfl ?_ | refine FillK.lit rfl ?_ | refine WrapK.i64 (by omega) (by omega) ?_ | refine WrapK.u64 (by omega) (by omega) ?_ | refine WrapK.u32 (by omega) (by omega) ?_ | refine WrapK.u8 (by omega) (by omega) ?_ | refine iteT (by omega) ?_ | refine iteF (by omega) ?_ | refine iteET (by omega) ?_ | refine iteEF (by omega) ?_ | refine iteNT (by omega) ?_ | refine iteNF (by omega) ?_); conv => whnf)
  refine CallK.mono (at_call _ g _ _ _ _ _ _ v hs hl) ?_
  rintro _ h2 ⟨k2, n, rfl, hn⟩
  replace H := H.and k2
  rcases hn with ⟨rfl, ha⟩ | ⟨i, x, rfl, hx, hp, ha⟩
  · have e : memT v T = 0 := by unfold memT; rw [none_find ha]
    rw [e]
    conv => whnf
    repeat ((first | refine cnd_intro (by first | (simp; done) | (simp; omega) | omega | (simp only [Bool.and_eq_true, decide_eq_true_eq]; omega)) ?_ | refine Hp.ld H 0 rfl rfl ?_ | refine Hp.ld H 1 rfl rfl ?_ | refine Hp.ld H 2 rfl rfl ?_ | refine Hp.ld H 3 rfl rfl ?_ | refine Hp.ld H 4 rfl rfl ?_ | refine Hp.ld H 5 rfl rfl ?_ | (refine Hp.st H 0 rfl rfl rfl rfl rfl ?_; intro h H) | (refine Hp.st H 1 rfl rfl rfl rfl rfl ?_; intro h H) | (refine Hp.st H 2 rfl rfl rfl rfl rfl ?_; intro h H) | (refine Hp.st H 3 rfl rfl rfl rfl rfl ?_; intro h H) | (refine Hp.st H 4 rfl rfl rfl rfl rfl ?_; intro h H) | (refine Hp.st H 5 rfl rfl rfl rfl rfl ?_; intro h H) | (intro b h N; replace H := Hp.new H N; clear N) | refine Drawn.mk (by kernel_rfl) ?_ | refine FillK.row rfl ?_ | refine FillK.lit rfl ?_ | refine WrapK.i64 (by omega) (by omega) ?_ | refine WrapK.u64 (by omega) (by omega) ?_ | refine WrapK.u32 (by omega) (by omega) ?_ | refine WrapK.u8 (by omega) (by omega) ?_ | refine iteT (by omega) ?_ | refine iteF (by omega) ?_ | refine iteET (by omega) ?_ | refine iteEF (by omega) ?_ | refine iteNT (by omega) ?_ | refine iteNF (by omega) ?_); conv => whnf)
    exact ⟨H.keep, rfl⟩
  · have e : memT v T = x.mem := by unfold memT; rw [first_find hx hp ha]
    have hlt : i < T.length := by
      rcases Nat.lt_or_ge i T.length with h | h
      · exact h
      · rw [List.getElem?_eq_none h] at hx; cases hx
    have hm := (hs.keep H.keep).mems
    rw [hse] at hm
    obtain ⟨bb, oo, rfl⟩ := hm.some (by omega)
    have ht := (hs.keep H.keep).tab
    rw [hse] at ht
    rw [e]
    conv => whnf
    repeat ((first | refine cnd_intro (by first | (simp; done) | (simp; omega) | omega | (simp only [Bool.and_eq_true, decide_eq_true_eq]; omega)) ?_ | refine Hp.ld H 0 rfl rfl ?_ | refine Hp.ld H 1 rfl rfl ?_ | refine Hp.ld H 2 rfl rfl ?_ | refine Hp.ld H 3 rfl rfl ?_ | refine Hp.ld H 4 rfl rfl ?_ | refine Hp.ld H 5 rfl rfl ?_ | (refine Hp.st H 0 rfl rfl rfl rfl rfl ?_; intro h H) | (refine Hp.st H 1 rfl rfl rfl rfl rfl ?_; intro h H) | (refine Hp.st H 2 rfl rfl rfl rfl rfl ?_; intro h H) | (refine Hp.st H 3 rfl rfl rfl rfl rfl ?_; intro h H) | (refine Hp.st H 4 rfl rfl rfl rfl rfl ?_; intro h H) | (refine Hp.st H 5 rfl rfl rfl rfl rfl ?_; intro h H) | (intro b h N; replace H := Hp.new H N; clear N) | refine Drawn.mk (by kernel_rfl) ?_ | refine FillK.row rfl ?_ | refine FillK.lit rfl ?_ | refine WrapK.i64 (by omega) (by omega) ?_ | refine WrapK.u64 (by omega) (by omega) ?_ | refine WrapK.u32 (by omega) (by omega) ?_ | refine WrapK.u8 (by omega) (by omega) ?_ | refine iteT (by omega) ?_ | refine iteF (by omega) ?_ | refine iteET (by omega) ?_ | refine iteEF (by omega) ?_ | refine iteNT (by omega) ?_ | refine iteNF (by omega) ?_); conv => whnf)
    refine LdK.lit ht rfl ?_
    conv => whnf
    repeat ((first | refine cnd_intro (by first | (simp; done) | (simp; omega) | omega | (simp only [Bool.and_eq_true, decide_eq_true_eq]; omega)) ?_ | refine Hp.ld H 0 rfl rfl ?_ | refine Hp.ld H 1 rfl rfl ?_ | refine Hp.ld H 2 rfl rfl ?_ | refine Hp.ld H 3 rfl rfl ?_ | refine Hp.ld H 4 rfl rfl ?_ | refine Hp.ld H 5 rfl rfl ?_ | (refine Hp.st H 0 rfl rfl rfl rfl rfl ?_; intro h H) | (refine Hp.st H 1 rfl rfl rfl rfl rfl ?_; intro h H) | (refine Hp.st H 2 rfl rfl rfl rfl rfl ?_; intro h H) | (refine Hp.st H 3 rfl rfl rfl rfl rfl ?_; intro h H) | (refine Hp.st H 4 rfl rfl rfl rfl rfl ?_; intro h H) | (refine Hp.st H 5 rfl rfl rfl rfl rfl ?_; intro h H) | (intro b h N; replace H := Hp.new H N; clear N) | refine Drawn.mk (by kernel_rfl) ?_ | refine FillK.row rfl ?_ | refine FillK.lit rfl ?_ | refine WrapK.i64 (by omega) (by omega) ?_ | refine WrapK.u64 (by omega) (by omega) ?_ | refine WrapK.u32 (by omega) (by omega) ?_ | refine WrapK.u8 (by omega) (by omega) ?_ | refine iteT (by omega) ?_ | refine iteF (by omega) ?_ | refine iteET (by omega) ?_ | refine iteEF (by omega) ?_ | refine iteNT (by omega) ?_ | refine iteNF (by omega) ?_); conv => whnf)
    refine rows_ld1 hm hx rfl rfl rfl rfl (by first | omega | (simp; done) | (simp; omega)) ?_
    conv => whnf
    repeat ((first | refine cnd_intro (by first | (simp; done) | (simp; omega) | omega | (simp only [Bool.and_eq_true, decide_eq_true_eq]; omega)) ?_ | refine Hp.ld H 0 rfl rfl ?_ | refine Hp.ld H 1 rfl rfl ?_ | refine Hp.ld H 2 rfl rfl ?_ | refine Hp.ld H 3 rfl rfl ?_ | refine Hp.ld H 4 rfl rfl ?_ | refine Hp.ld H 5 rfl rfl ?_ | (refine Hp.st H 0 rfl rfl rfl rfl rfl ?_; intro h H) | (refine Hp.st H 1 rfl rfl rfl rfl rfl ?_; intro h H) | (refine Hp.st H 2 rfl rfl rfl rfl rfl ?_; intro h H) | (refine Hp.st H 3 rfl rfl rfl rfl rfl ?_; intro h H) | (refine Hp.st H 4 rfl rfl rfl rfl rfl ?_; intro h H) | (refine Hp.st H 5 rfl rfl rfl rfl rfl ?_; intro h H) | (intro b h N; replace H := Hp.new H N; clear N) | refine Drawn.mk (by kernel_rfl) ?_ | refine FillK.row rfl ?_ | refine FillK.lit rfl ?_ | refine WrapK.i64 (by omega) (by omega) ?_ | refine WrapK.u64 (by omega) (by omega) ?_ | refine WrapK.u32 (by omega) (by omega) ?_ | refine WrapK.u8 (by omega) (by omega) ?_ | refine iteT (by omega) ?_ | refine iteF (by omega) ?_ | refine iteET (by omega) ?_ | refine iteEF (by omega) ?_ | refine iteNT (by omega) ?_ | refine iteNF (by omega) ?_); conv => whnf)
    exact ⟨H.keep, rfl⟩

theorem plain_call (h0 : Heap) (g : Nat) (s0 s1 s2 s3 : Value) (ps : List VPort) (T : List VRow) (v : Int) (hs : VtV h0 g s0 s1 s2 s3 ps T) (hl : T.length ≤ 9223372036854775807) :
    CallK Try.prog 30 #[.pointer (some ⟨g, 0, none⟩), .int .i64 v] h0 fun w h' => Keep (fun _ => False) h0 h' ∧ w = .int .i64 (plainT v T) := by
  refine CallK.of_vc EW_ok [0, 1, 4, 5, 10] Try.func30 rfl (Nat.le_of_ble_eq_true rfl) ?_
  have H := Hp.start h0
  obtain ⟨A, c, hse, hc', _⟩ := hs.plains.out
  conv => whnf
  repeat ((first | refine cnd_intro (by first | (simp; done) | (simp; omega) | omega | (simp only [Bool.and_eq_true, decide_eq_true_eq]; omega)) ?_ | refine Hp.ld H 0 rfl rfl ?_ | refine Hp.ld H 1 rfl rfl ?_ | refine Hp.ld H 2 rfl rfl ?_ | refine Hp.ld H 3 rfl rfl ?_ | refine Hp.ld H 4 rfl rfl ?_ | refine Hp.ld H 5 rfl rfl ?_ | (refine Hp.st H 0 rfl rfl rfl rfl rfl ?_; intro h H) | (refine Hp.st H 1 rfl rfl rfl rfl rfl ?_; intro h H) | (refine Hp.st H 2 rfl rfl rfl rfl rfl ?_; intro h H) | (refine Hp.st H 3 rfl rfl rfl rfl rfl ?_; intro h H) | (refine Hp.st H 4 rfl rfl rfl rfl rfl ?_; intro h H) | (refine Hp.st H 5 rfl rfl rfl rfl rfl ?_; intro h H) | (intro b h N; replace H := Hp.new H N; clear N) | refine Drawn.mk (by kernel_rfl) ?_ | refine FillK.row rfl ?_ | refine FillK.lit rfl ?_ | refine WrapK.i64 (by omega) (by omega) ?_ | refine WrapK.u64 (by omega) (by omega) ?_ | refine WrapK.u32 (by omega) (by omega) ?_ | refine WrapK.u8 (by omega) (by omega) ?_ | refine iteT (by omega) ?_ | refine iteF (by omega) ?_ | refine iteET (by omega) ?_ | refine iteEF (by omega) ?_ | refine iteNT (by omega) ?_ | refine iteNF (by omega) ?_); conv => whnf)
  refine CallK.mono (at_call _ g _ _ _ _ _ _ v hs hl) ?_
  rintro _ h2 ⟨k2, n, rfl, hn⟩
  replace H := H.and k2
  rcases hn with ⟨rfl, ha⟩ | ⟨i, x, rfl, hx, hp, ha⟩
  · have e : plainT v T = 0 := by unfold plainT; rw [none_find ha]
    rw [e]
    conv => whnf
    repeat ((first | refine cnd_intro (by first | (simp; done) | (simp; omega) | omega | (simp only [Bool.and_eq_true, decide_eq_true_eq]; omega)) ?_ | refine Hp.ld H 0 rfl rfl ?_ | refine Hp.ld H 1 rfl rfl ?_ | refine Hp.ld H 2 rfl rfl ?_ | refine Hp.ld H 3 rfl rfl ?_ | refine Hp.ld H 4 rfl rfl ?_ | refine Hp.ld H 5 rfl rfl ?_ | (refine Hp.st H 0 rfl rfl rfl rfl rfl ?_; intro h H) | (refine Hp.st H 1 rfl rfl rfl rfl rfl ?_; intro h H) | (refine Hp.st H 2 rfl rfl rfl rfl rfl ?_; intro h H) | (refine Hp.st H 3 rfl rfl rfl rfl rfl ?_; intro h H) | (refine Hp.st H 4 rfl rfl rfl rfl rfl ?_; intro h H) | (refine Hp.st H 5 rfl rfl rfl rfl rfl ?_; intro h H) | (intro b h N; replace H := Hp.new H N; clear N) | refine Drawn.mk (by kernel_rfl) ?_ | refine FillK.row rfl ?_ | refine FillK.lit rfl ?_ | refine WrapK.i64 (by omega) (by omega) ?_ | refine WrapK.u64 (by omega) (by omega) ?_ | refine WrapK.u32 (by omega) (by omega) ?_ | refine WrapK.u8 (by omega) (by omega) ?_ | refine iteT (by omega) ?_ | refine iteF (by omega) ?_ | refine iteET (by omega) ?_ | refine iteEF (by omega) ?_ | refine iteNT (by omega) ?_ | refine iteNF (by omega) ?_); conv => whnf)
    exact ⟨H.keep, rfl⟩
  · have e : plainT v T = x.pl := by unfold plainT; rw [first_find hx hp ha]
    have hlt : i < T.length := by
      rcases Nat.lt_or_ge i T.length with h | h
      · exact h
      · rw [List.getElem?_eq_none h] at hx; cases hx
    have hm := (hs.keep H.keep).plains
    rw [hse] at hm
    obtain ⟨bb, oo, rfl⟩ := hm.some (by omega)
    have ht := (hs.keep H.keep).tab
    rw [hse] at ht
    rw [e]
    conv => whnf
    repeat ((first | refine cnd_intro (by first | (simp; done) | (simp; omega) | omega | (simp only [Bool.and_eq_true, decide_eq_true_eq]; omega)) ?_ | refine Hp.ld H 0 rfl rfl ?_ | refine Hp.ld H 1 rfl rfl ?_ | refine Hp.ld H 2 rfl rfl ?_ | refine Hp.ld H 3 rfl rfl ?_ | refine Hp.ld H 4 rfl rfl ?_ | refine Hp.ld H 5 rfl rfl ?_ | (refine Hp.st H 0 rfl rfl rfl rfl rfl ?_; intro h H) | (refine Hp.st H 1 rfl rfl rfl rfl rfl ?_; intro h H) | (refine Hp.st H 2 rfl rfl rfl rfl rfl ?_; intro h H) | (refine Hp.st H 3 rfl rfl rfl rfl rfl ?_; intro h H) | (refine Hp.st H 4 rfl rfl rfl rfl rfl ?_; intro h H) | (refine Hp.st H 5 rfl rfl rfl rfl rfl ?_; intro h H) | (intro b h N; replace H := Hp.new H N; clear N) | refine Drawn.mk (by kernel_rfl) ?_ | refine FillK.row rfl ?_ | refine FillK.lit rfl ?_ | refine WrapK.i64 (by omega) (by omega) ?_ | refine WrapK.u64 (by omega) (by omega) ?_ | refine WrapK.u32 (by omega) (by omega) ?_ | refine WrapK.u8 (by omega) (by omega) ?_ | refine iteT (by omega) ?_ | refine iteF (by omega) ?_ | refine iteET (by omega) ?_ | refine iteEF (by omega) ?_ | refine iteNT (by omega) ?_ | refine iteNF (by omega) ?_); conv => whnf)
    refine LdK.lit ht rfl ?_
    conv => whnf
    repeat ((first | refine cnd_intro (by first | (simp; done) | (simp; omega) | omega | (simp only [Bool.and_eq_true, decide_eq_true_eq]; omega)) ?_ | refine Hp.ld H 0 rfl rfl ?_ | refine Hp.ld H 1 rfl rfl ?_ | refine Hp.ld H 2 rfl rfl ?_ | refine Hp.ld H 3 rfl rfl ?_ | refine Hp.ld H 4 rfl rfl ?_ | refine Hp.ld H 5 rfl rfl ?_ | (refine Hp.st H 0 rfl rfl rfl rfl rfl ?_; intro h H) | (refine Hp.st H 1 rfl rfl rfl rfl rfl ?_; intro h H) | (refine Hp.st H 2 rfl rfl rfl rfl rfl ?_; intro h H) | (refine Hp.st H 3 rfl rfl rfl rfl rfl ?_; intro h H) | (refine Hp.st H 4 rfl rfl rfl rfl rfl ?_; intro h H) | (refine Hp.st H 5 rfl rfl rfl rfl rfl ?_; intro h H) | (intro b h N; replace H := Hp.new H N; clear N) | refine Drawn.mk (by kernel_rfl) ?_ | refine FillK.row rfl ?_ | refine FillK.lit rfl ?_ | refine WrapK.i64 (by omega) (by omega) ?_ | refine WrapK.u64 (by omega) (by omega) ?_ | refine WrapK.u32 (by omega) (by omega) ?_ | refine WrapK.u8 (by omega) (by omega) ?_ | refine iteT (by omega) ?_ | refine iteF (by omega) ?_ | refine iteET (by omega) ?_ | refine iteEF (by omega) ?_ | refine iteNT (by omega) ?_ | refine iteNF (by omega) ?_); conv => whnf)
    refine rows_ld1 hm hx rfl rfl rfl rfl (by first | omega | (simp; done) | (simp; omega)) ?_
    conv => whnf
    repeat ((first | refine cnd_intro (by first | (simp; done) | (simp; omega) | omega | (simp only [Bool.and_eq_true, decide_eq_true_eq]; omega)) ?_ | refine Hp.ld H 0 rfl rfl ?_ | refine Hp.ld H 1 rfl rfl ?_ | refine Hp.ld H 2 rfl rfl ?_ | refine Hp.ld H 3 rfl rfl ?_ | refine Hp.ld H 4 rfl rfl ?_ | refine Hp.ld H 5 rfl rfl ?_ | (refine Hp.st H 0 rfl rfl rfl rfl rfl ?_; intro h H) | (refine Hp.st H 1 rfl rfl rfl rfl rfl ?_; intro h H) | (refine Hp.st H 2 rfl rfl rfl rfl rfl ?_; intro h H) | (refine Hp.st H 3 rfl rfl rfl rfl rfl ?_; intro h H) | (refine Hp.st H 4 rfl rfl rfl rfl rfl ?_; intro h H) | (refine Hp.st H 5 rfl rfl rfl rfl rfl ?_; intro h H) | (intro b h N; replace H := Hp.new H N; clear N) | refine Drawn.mk (by kernel_rfl) ?_ | refine FillK.row rfl ?_ | refine FillK.lit rfl ?_ | refine WrapK.i64 (by omega) (by omega) ?_ | refine WrapK.u64 (by omega) (by omega) ?_ | refine WrapK.u32 (by omega) (by omega) ?_ | refine WrapK.u8 (by omega) (by omega) ?_ | refine iteT (by omega) ?_ | refine iteF (by omega) ?_ | refine iteET (by omega) ?_ | refine iteEF (by omega) ?_ | refine iteNT (by omega) ?_ | refine iteNF (by omega) ?_); conv => whnf)
    exact ⟨H.keep, rfl⟩

theorem ports_call (h0 : Heap) (g : Nat) (s0 s1 s2 s3 : Value) (ps : List VPort) (T : List VRow) (hs : VtV h0 g s0 s1 s2 s3 ps T) :
    CallK Try.prog 42 #[.pointer (some ⟨g, 0, none⟩)] h0 fun w h' => Keep (fun _ => False) h0 h' ∧ w = .int .i64 (ps.length : Nat) := by
  refine CallK.of_vc EW_ok [0, 2] Try.func42 rfl (Nat.le_of_ble_eq_true rfl) ?_
  have H := Hp.start h0
  obtain ⟨A, c, rfl, hc', _⟩ := hs.ports.out
  conv => whnf
  repeat ((first | refine cnd_intro (by first | (simp; done) | (simp; omega) | omega | (simp only [Bool.and_eq_true, decide_eq_true_eq]; omega)) ?_ | refine Hp.ld H 0 rfl rfl ?_ | refine Hp.ld H 1 rfl rfl ?_ | refine Hp.ld H 2 rfl rfl ?_ | refine Hp.ld H 3 rfl rfl ?_ | refine Hp.ld H 4 rfl rfl ?_ | refine Hp.ld H 5 rfl rfl ?_ | (refine Hp.st H 0 rfl rfl rfl rfl rfl ?_; intro h H) | (refine Hp.st H 1 rfl rfl rfl rfl rfl ?_; intro h H) | (refine Hp.st H 2 rfl rfl rfl rfl rfl ?_; intro h H) | (refine Hp.st H 3 rfl rfl rfl rfl rfl ?_; intro h H) | (refine Hp.st H 4 rfl rfl rfl rfl rfl ?_; intro h H) | (refine Hp.st H 5 rfl rfl rfl rfl rfl ?_; intro h H) | (intro b h N; replace H := Hp.new H N; clear N) | refine Drawn.mk (by kernel_rfl) ?_ | refine FillK.row rfl ?_ | refine FillK.lit rfl ?_ | refine WrapK.i64 (by omega) (by omega) ?_ | refine WrapK.u64 (by omega) (by omega) ?_ | refine WrapK.u32 (by omega) (by omega) ?_ | refine WrapK.u8 (by omega) (by omega) ?_ | refine iteT (by omega) ?_ | refine iteF (by omega) ?_ | refine iteET (by omega) ?_ | refine iteEF (by omega) ?_ | refine iteNT (by omega) ?_ | refine iteNF (by omega) ?_); conv => whnf)
  refine ldO H hs.tab rfl ?_
  conv => whnf
  repeat ((first | refine cnd_intro (by first | (simp; done) | (simp; omega) | omega | (simp only [Bool.and_eq_true, decide_eq_true_eq]; omega)) ?_ | refine Hp.ld H 0 rfl rfl ?_ | refine Hp.ld H 1 rfl rfl ?_ | refine Hp.ld H 2 rfl rfl ?_ | refine Hp.ld H 3 rfl rfl ?_ | refine Hp.ld H 4 rfl rfl ?_ | refine Hp.ld H 5 rfl rfl ?_ | (refine Hp.st H 0 rfl rfl rfl rfl rfl ?_; intro h H) | (refine Hp.st H 1 rfl rfl rfl rfl rfl ?_; intro h H) | (refine Hp.st H 2 rfl rfl rfl rfl rfl ?_; intro h H) | (refine Hp.st H 3 rfl rfl rfl rfl rfl ?_; intro h H) | (refine Hp.st H 4 rfl rfl rfl rfl rfl ?_; intro h H) | (refine Hp.st H 5 rfl rfl rfl rfl rfl ?_; intro h H) | (intro b h N; replace H := Hp.new H N; clear N) | refine Drawn.mk (by kernel_rfl) ?_ | refine FillK.row rfl ?_ | refine FillK.lit rfl ?_ | refine WrapK.i64 (by omega) (by omega) ?_ | refine WrapK.u64 (by omega) (by omega) ?_ | refine WrapK.u32 (by omega) (by omega) ?_ | refine WrapK.u8 (by omega) (by omega) ?_ | refine iteT (by omega) ?_ | refine iteF (by omega) ?_ | refine iteET (by omega) ?_ | refine iteEF (by omega) ?_ | refine iteNT (by omega) ?_ | refine iteNF (by omega) ?_); conv => whnf)
  exact ⟨H.keep, rfl⟩

/-- A table's numbers are sets of ports. -/
def SmallT (T : List VRow) : Prop := ∀ x ∈ T, (0 ≤ x.mem ∧ x.mem < 65536) ∧ (0 ≤ x.pl ∧ x.pl < 65536)

theorem memT_small {T : List VRow} (h : SmallT T) (v : Int) : 0 ≤ memT v T ∧ memT v T < 65536 := by
  unfold memT
  cases hf : T.find? (VRow.isV v) with
  | none => exact ⟨by decide, by decide⟩
  | some x => exact (h x (List.mem_of_find?_eq_some hf)).1
theorem plainT_small {T : List VRow} (h : SmallT T) (v : Int) : 0 ≤ plainT v T ∧ plainT v T < 65536 := by
  unfold plainT
  cases hf : T.find? (VRow.isV v) with
  | none => exact ⟨by decide, by decide⟩
  | some x => exact (h x (List.mem_of_find?_eq_some hf)).2

/-- Is port p in the set m? -/
def hasP (m : Int) (p : Nat) : Bool := m.toNat.testBit p

theorem bit_of {m : Int} (h0 : 0 ≤ m) (h1 : m < 65536) (p : Nat) : (bAnd .i64 (bShr .i64 m (p : Nat)) 1 == 1) = hasP m p := by
  obtain ⟨n, rfl⟩ : ∃ n : Nat, m = n := ⟨m.toNat, by omega⟩
  rw [bShr_i64 (by omega)]
  have e : n / 2 ^ p < 9223372036854775808 := Nat.lt_of_le_of_lt (Nat.div_le_self _ _) (by omega)
  have := bAnd_i64 (a := n / 2 ^ p) (b := 1) e (by decide)
  rw [show ((1 : Nat) : Int) = 1 from rfl] at this
  rw [this]
  unfold hasP
  rw [Int.toNat_natCast, Nat.testBit_eq_decide_div_mod_eq]
  rw [show (n / 2 ^ p &&& 1) = (n / 2 ^ p) % 2 from Nat.and_two_pow_sub_one_eq_mod _ 1]
  rw [Bool.eq_iff_iff, beq_iff_eq, decide_eq_true_eq]
  omega

theorem member_call (h0 : Heap) (g : Nat) (s0 s1 s2 s3 : Value) (ps : List VPort) (T : List VRow) (v p : Int) (hs : VtV h0 g s0 s1 s2 s3 ps T) (hl : T.length ≤ 9223372036854775807) (hsm : SmallT T) :
    CallK Try.prog 35 #[.pointer (some ⟨g, 0, none⟩), .int .i64 v, .int .i64 p] h0 fun w h' => Keep (fun _ => False) h0 h' ∧ w = .bool (decide (0 ≤ p ∧ p < 16) && hasP (memT v T) p.toNat) := by
  refine CallK.of_vc EW_ok [0, 1, 2, 6] Try.func35 rfl (Nat.le_of_ble_eq_true rfl) ?_
  have H := Hp.start h0
  by_cases c1 : p < 0
  · conv => whnf
    repeat ((first | refine cnd_intro (by first | (simp; done) | (simp; omega) | omega | (simp only [Bool.and_eq_true, decide_eq_true_eq]; omega)) ?_ | refine Hp.ld H 0 rfl rfl ?_ | refine Hp.ld H 1 rfl rfl ?_ | refine Hp.ld H 2 rfl rfl ?_ | refine Hp.ld H 3 rfl rfl ?_ | refine Hp.ld H 4 rfl rfl ?_ | refine Hp.ld H 5 rfl rfl ?_ | (refine Hp.st H 0 rfl rfl rfl rfl rfl ?_; intro h H) | (refine Hp.st H 1 rfl rfl rfl rfl rfl ?_; intro h H) | (refine Hp.st H 2 rfl rfl rfl rfl rfl ?_; intro h H) | (refine Hp.st H 3 rfl rfl rfl rfl rfl ?_; intro h H) | (refine Hp.st H 4 rfl rfl rfl rfl rfl ?_; intro h H) | (refine Hp.st H 5 rfl rfl rfl rfl rfl ?_; intro h H) | (intro b h N; replace H := Hp.new H N; clear N) | refine Drawn.mk (by kernel_rfl) ?_ | refine FillK.row rfl ?_ | refine FillK.lit rfl ?_ | refine WrapK.i64 (by omega) (by omega) ?_ | refine WrapK.u64 (by omega) (by omega) ?_ | refine WrapK.u32 (by omega) (by omega) ?_ | refine WrapK.u8 (by omega) (by omega) ?_ | refine iteT (by omega) ?_ | refine iteF (by omega) ?_ | refine iteET (by omega) ?_ | refine iteEF (by omega) ?_ | refine iteNT (by omega) ?_ | refine iteNF (by omega) ?_); conv => whnf)
    exact ⟨H.keep, by rw [tup_one, decide_eq_false (by omega)]; rfl⟩
  by_cases c2 : p ≥ 16
  · conv => whnf
    repeat ((first | refine cnd_intro (by first | (simp; done) | (simp; omega) | omega | (simp only [Bool.and_eq_true, decide_eq_true_eq]; omega)) ?_ | refine Hp.ld H 0 rfl rfl ?_ | refine Hp.ld H 1 rfl rfl ?_ | refine Hp.ld H 2 rfl rfl ?_ | refine Hp.ld H 3 rfl rfl ?_ | refine Hp.ld H 4 rfl rfl ?_ | refine Hp.ld H 5 rfl rfl ?_ | (refine Hp.st H 0 rfl rfl rfl rfl rfl ?_; intro h H) | (refine Hp.st H 1 rfl rfl rfl rfl rfl ?_; intro h H) | (refine Hp.st H 2 rfl rfl rfl rfl rfl ?_; intro h H) | (refine Hp.st H 3 rfl rfl rfl rfl rfl ?_; intro h H) | (refine Hp.st H 4 rfl rfl rfl rfl rfl ?_; intro h H) | (refine Hp.st H 5 rfl rfl rfl rfl rfl ?_; intro h H) | (intro b h N; replace H := Hp.new H N; clear N) | refine Drawn.mk (by kernel_rfl) ?_ | refine FillK.row rfl ?_ | refine FillK.lit rfl ?_ | refine WrapK.i64 (by omega) (by omega) ?_ | refine WrapK.u64 (by omega) (by omega) ?_ | refine WrapK.u32 (by omega) (by omega) ?_ | refine WrapK.u8 (by omega) (by omega) ?_ | refine iteT (by omega) ?_ | refine iteF (by omega) ?_ | refine iteET (by omega) ?_ | refine iteEF (by omega) ?_ | refine iteNT (by omega) ?_ | refine iteNF (by omega) ?_); conv => whnf)
    exact ⟨H.keep, by rw [tup_one, decide_eq_false (by omega)]; rfl⟩
  obtain ⟨n, rfl⟩ : ∃ n : Nat, p = n := ⟨p.toNat, by omega⟩
  have hm := memT_small hsm v
  conv => whnf
  repeat ((first | refine cnd_intro (by first | (simp; done) | (simp; omega) | omega | (simp only [Bool.and_eq_true, decide_eq_true_eq]; omega)) ?_ | refine Hp.ld H 0 rfl rfl ?_ | refine Hp.ld H 1 rfl rfl ?_ | refine Hp.ld H 2 rfl rfl ?_ | refine Hp.ld H 3 rfl rfl ?_ | refine Hp.ld H 4 rfl rfl ?_ | refine Hp.ld H 5 rfl rfl ?_ | (refine Hp.st H 0 rfl rfl rfl rfl rfl ?_; intro h H) | (refine Hp.st H 1 rfl rfl rfl rfl rfl ?_; intro h H) | (refine Hp.st H 2 rfl rfl rfl rfl rfl ?_; intro h H) | (refine Hp.st H 3 rfl rfl rfl rfl rfl ?_; intro h H) | (refine Hp.st H 4 rfl rfl rfl rfl rfl ?_; intro h H) | (refine Hp.st H 5 rfl rfl rfl rfl rfl ?_; intro h H) | (intro b h N; replace H := Hp.new H N; clear N) | refine Drawn.mk (by kernel_rfl) ?_ | refine FillK.row rfl ?_ | refine FillK.lit rfl ?_ | refine WrapK.i64 (by omega) (by omega) ?_ | refine WrapK.u64 (by omega) (by omega) ?_ | refine WrapK.u32 (by omega) (by omega) ?_ | refine WrapK.u8 (by omega) (by omega) ?_ | refine iteT (by omega) ?_ | refine iteF (by omega) ?_ | refine iteET (by omega) ?_ | refine iteEF (by omega) ?_ | refine iteNT (by omega) ?_ | refine iteNF (by omega) ?_); conv => whnf)
  refine CallK.mono (members_call _ g _ _ _ _ _ _ v hs hl) ?_
  rintro _ h2 ⟨k2, rfl⟩
  replace H := H.and k2
  conv => whnf
  repeat ((first | refine cnd_intro (by first | (simp; done) | (simp; omega) | omega | (simp only [Bool.and_eq_true, decide_eq_true_eq]; omega)) ?_ | refine Hp.ld H 0 rfl rfl ?_ | refine Hp.ld H 1 rfl rfl ?_ | refine Hp.ld H 2 rfl rfl ?_ | refine Hp.ld H 3 rfl rfl ?_ | refine Hp.ld H 4 rfl rfl ?_ | refine Hp.ld H 5 rfl rfl ?_ | (refine Hp.st H 0 rfl rfl rfl rfl rfl ?_; intro h H) | (refine Hp.st H 1 rfl rfl rfl rfl rfl ?_; intro h H) | (refine Hp.st H 2 rfl rfl rfl rfl rfl ?_; intro h H) | (refine Hp.st H 3 rfl rfl rfl rfl rfl ?_; intro h H) | (refine Hp.st H 4 rfl rfl rfl rfl rfl ?_; intro h H) | (refine Hp.st H 5 rfl rfl rfl rfl rfl ?_; intro h H) | (intro b h N; replace H := Hp.new H N; clear N) | refine Drawn.mk (by kernel_rfl) ?_ | refine FillK.row rfl ?_ | refine FillK.lit rfl ?_ | refine WrapK.i64 (by omega) (by omega) ?_ | refine WrapK.u64 (by omega) (by omega) ?_ | refine WrapK.u32 (by omega) (by omega) ?_ | refine WrapK.u8 (by omega) (by omega) ?_ | refine iteT (by omega) ?_ | refine iteF (by omega) ?_ | refine iteET (by omega) ?_ | refine iteEF (by omega) ?_ | refine iteNT (by omega) ?_ | refine iteNF (by omega) ?_); conv => whnf)
  refine ⟨H.keep, ?_⟩
  rw [tup_one, decide_eq_true (by omega), bit_of hm.1 hm.2, Int.toNat_natCast]
  rfl

end Go.Proofs.Ytcjilkemfmhkgaa
