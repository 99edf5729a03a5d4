import Derived.Test.YtcjilkemfmhkgaaVlan2
import Derived.Test.YtcjilkemfmhkgaaOpt
namespace Go.Proofs.Ytcjilkemfmhkgaa
open Go.Vc
set_option maxRecDepth 10000
set_option maxHeartbeats 4000000

/-! ### vlan: a table of one's own -/

def Res.vt (g : Nat) (s0 s1 s2 s3 : Value) (ps : List VPort) (T : List VRow) : Res :=
  Res.pair (Res.own s0 76 4 ps.length (ps.flatMap VPort.cells)) (Res.pair (Res.own s1 3 1 T.length (T.flatMap VRow.v)) (Res.pair (Res.own s2 3 1 T.length (T.flatMap VRow.m)) (Res.pair (Res.own s3 3 1 T.length (T.flatMap VRow.p))
    (Res.ob g (.cells [s0, s1, s2, s3].toArray 56 (0, 0))))))

theorem vt_open {h0 h : Heap} {rs : List Res} {g : Nat} {s0 s1 s2 s3 : Value} {ps : List VPort} {T : List VRow} (H : Hp h0 h (Res.vt g s0 s1 s2 s3 ps T :: rs)) :
    Hp h0 h (Res.own s0 76 4 ps.length (ps.flatMap VPort.cells) :: Res.own s1 3 1 T.length (T.flatMap VRow.v) :: Res.own s2 3 1 T.length (T.flatMap VRow.m) :: Res.own s3 3 1 T.length (T.flatMap VRow.p) :: Res.ob g (.cells [s0, s1, s2, s3].toArray 56 (0, 0)) :: rs) :=
  Hp.unpairAt (A := [_, _, _]) (Hp.unpairAt (A := [_, _]) (Hp.unpairAt (A := [_]) H.unpair))

theorem vt_close {h0 h : Heap} {rs : List Res} {g : Nat} {s0 s1 s2 s3 : Value} {ps : List VPort} {T : List VRow} {n0 n1 n2 n3 : Nat} {x0 x1 x2 x3 : List Value}
    (H : Hp h0 h (Res.own s0 76 4 n0 x0 :: Res.own s1 3 1 n1 x1 :: Res.own s2 3 1 n2 x2 :: Res.own s3 3 1 n3 x3 :: Res.ob g (.cells [s0, s1, s2, s3].toArray 56 (0, 0)) :: rs))
    (h0' : n0 = ps.length) (h1 : n1 = T.length) (h2 : n2 = T.length) (h3 : n3 = T.length) (e0 : x0 = ps.flatMap VPort.cells) (e1 : x1 = T.flatMap VRow.v) (e2 : x2 = T.flatMap VRow.m) (e3 : x3 = T.flatMap VRow.p) : Hp h0 h (Res.vt g s0 s1 s2 s3 ps T :: rs) := by
  subst h0' h1 h2 h3 e0 e1 e2 e3
  exact (Hp.pairAt (A := [_]) (Hp.pairAt (A := [_, _]) (Hp.pairAt (A := [_, _, _]) H))).pair

theorem vt_view {h0 h : Heap} {rs : List Res} {i g : Nat} {s0 s1 s2 s3 : Value} {ps : List VPort} {T : List VRow} (H : Hp h0 h rs) (hn : nth rs i = some (Res.vt g s0 s1 s2 s3 ps T)) : VtV h g s0 s1 s2 s3 ps T := by
  have H2 := vt_open (H.pick i hn)
  exact ⟨H2.get 4 rfl, RowsV.of_own (D := 0) (H2.get 0 rfl) (fun _ => rfl) (by decide), RowsV.of_own (D := 0) (H2.get 1 rfl) (fun _ => rfl) (by decide), RowsV.of_own (D := 0) (H2.get 2 rfl) (fun _ => rfl) (by decide), RowsV.of_own (D := 0) (H2.get 3 rfl) (fun _ => rfl) (by decide)⟩

/-- How many ports. -/
def portsN (n : Int) : Nat := (min (max n 0) 16).toNat

theorem portsN_eq (n : Int) : (if (16 : Int) < (if (0 : Int) > n then 0 else n) then (16 : Int) else (if (0 : Int) > n then 0 else n)) = (portsN n : Nat) := by
  unfold portsN
  split <;> split <;> omega

theorem portsN_le (n : Int) : portsN n ≤ 16 := by unfold portsN; omega

def p0 : VPort := ⟨0, 0, 0, false⟩
def p1 : VPort := ⟨0, 1, 0, false⟩

theorem pow_le {k : Nat} (h : k ≤ 16) : 2 ^ k ≤ 65536 := Nat.pow_le_pow_right (by decide) h

theorem shl_one {k : Nat} (h : k ≤ 16) : bShl .i64 1 (k : Nat) = ((2 ^ k : Nat) : Int) := by
  have hp := pow_le h
  have := bShl_i64 (a := 1) (n := k) (by omega) (by omega)
  rw [Nat.one_mul] at this
  exact this

/-- The ports, the first i of them set. -/
def portsAt (k i : Nat) : List VPort := List.replicate i p1 ++ List.replicate (k - i) p0

theorem perm4 (a b c d e : Res) : ([d, a, b, c, e] ++ []).Perm [a, b, c, d, e] := by
  rw [List.append_nil]
  exact (List.perm_middle (l₁ := [a, b, c]) (l₂ := [e])).symm

theorem new_call (h0 : Heap) (n : Int) : CallK Try.prog 15 #[.int .i64 n] h0 fun v h' => ∃ g s0 s1 s2 s3, v = .pointer (some ⟨g, 0, none⟩) ∧
    Hp h0 h' [Res.vt g s0 s1 s2 s3 (List.replicate (portsN n) p1) [⟨1, ((2 ^ portsN n : Nat) : Int) - 1, ((2 ^ portsN n : Nat) : Int) - 1⟩]] := by
  refine CallK.of_vc EW_ok [0, 2, 3, 4, 5, 17, 18, 19] Try.func15 rfl (Nat.le_of_ble_eq_true rfl) ?_
  have H := Hp.start h0
  generalize hk : portsN n = k
  have hk16 : k ≤ 16 := by rw [← hk]; exact portsN_le n
  have hpe := portsN_eq n
  rw [hk] at hpe
  have hpw := pow_le hk16
  have hp1 : 1 ≤ 2 ^ k := Nat.one_le_two_pow
  conv => whnf
  repeat ((first | refine cnd_intro (by first | (simp; done) | (simp; omega) | omega | (simp only [Bool.and_eq_true, decide_eq_true_eq]; omega)) ?_ | refine Hp.ld H 0 rfl rfl ?_ | refine Hp.ld H 1 rfl rfl ?_ | refine Hp.ld H 2 rfl rfl ?_ | refine Hp.ld H 3 rfl rfl ?_ | refine Hp.ld H 4 rfl rfl ?_ | refine Hp.ld H 5 rfl rfl ?_ | (refine Hp.st H 0 rfl rfl rfl rfl rfl ?_; intro h H) | (refine Hp.st H 1 rfl rfl rfl rfl rfl ?_; intro h H) | (refine Hp.st H 2 rfl rfl rfl rfl rfl ?_; intro h H) | (refine Hp.st H 3 rfl rfl rfl rfl rfl ?_; intro h H) | (refine Hp.st H 4 rfl rfl rfl rfl rfl ?_; intro h H) | (refine Hp.st H 5 rfl rfl rfl rfl rfl ?_; intro h H) | (intro b h N; replace H := Hp.new H N; clear N) | refine Drawn.mk (by kernel_rfl) ?_ | refine FillK.row rfl ?_ | refine FillK.lit rfl ?_ | refine WrapK.i64 (by omega) (by omega) ?_ | refine WrapK.u64 (by omega) (by omega) ?_ | refine WrapK.u32 (by omega) (by omega) ?_ | refine WrapK.u8 (by omega) (by omega) ?_ | refine iteT (by omega) ?_ | refine iteF (by omega) ?_ | refine iteET (by omega) ?_ | refine iteEF (by omega) ?_ | refine iteNT (by omega) ?_ | refine iteNF (by omega) ?_); conv => whnf)
  rw [hpe]
  refine Hp.makeN EW_ok p0 (f := VPort.cells) (n := k) H rfl rfl rfl rfl rfl (by decide) rfl rfl (by omega) rfl ?_
  clear H
  intro b h1 H
  conv => whnf
  repeat ((first | refine cnd_intro (by first | (simp; done) | (simp; omega) | omega | (simp only [Bool.and_eq_true, decide_eq_true_eq]; omega)) ?_ | refine Hp.ld H 0 rfl rfl ?_ | refine Hp.ld H 1 rfl rfl ?_ | refine Hp.ld H 2 rfl rfl ?_ | refine Hp.ld H 3 rfl rfl ?_ | refine Hp.ld H 4 rfl rfl ?_ | refine Hp.ld H 5 rfl rfl ?_ | (refine Hp.st H 0 rfl rfl rfl rfl rfl ?_; intro h H) | (refine Hp.st H 1 rfl rfl rfl rfl rfl ?_; intro h H) | (refine Hp.st H 2 rfl rfl rfl rfl rfl ?_; intro h H) | (refine Hp.st H 3 rfl rfl rfl rfl rfl ?_; intro h H) | (refine Hp.st H 4 rfl rfl rfl rfl rfl ?_; intro h H) | (refine Hp.st H 5 rfl rfl rfl rfl rfl ?_; intro h H) | refine Drawn.mk (by kernel_rfl) ?_ | refine WrapK.i64 (by omega) (by omega) ?_ | refine WrapK.u64 (by omega) (by omega) ?_ | refine WrapK.u32 (by omega) (by omega) ?_ | refine WrapK.u8 (by omega) (by omega) ?_ | refine iteT (by omega) ?_ | refine iteF (by omega) ?_ | refine iteET (by omega) ?_ | refine iteEF (by omega) ?_ | refine iteNT (by omega) ?_ | refine iteNF (by omega) ?_); conv => whnf)
  refine FillK.lit rfl ?_
  conv => whnf
  intro g h2 N
  replace H := H.new N
  clear N
  have H : Hp h0 h2 [Res.ob g (.cells ([.slice (some ⟨b, 0, none⟩) k k, .slice none 0 0, .slice none 0 0, .slice none 0 0] : List Value).toArray 56 (0, 0)), Res.ob b (.cells ((portsAt k 0).flatMap VPort.cells).toArray 76 (0, 0))] := H
  conv => whnf
  repeat ((first | refine cnd_intro (by first | (simp; done) | (simp; omega) | omega | (simp only [Bool.and_eq_true, decide_eq_true_eq]; omega)) ?_ | refine Hp.ld H 0 rfl rfl ?_ | refine Hp.ld H 1 rfl rfl ?_ | refine Hp.ld H 2 rfl rfl ?_ | refine Hp.ld H 3 rfl rfl ?_ | refine Hp.ld H 4 rfl rfl ?_ | refine Hp.ld H 5 rfl rfl ?_ | (refine Hp.st H 0 rfl rfl rfl rfl rfl ?_; intro h H) | (refine Hp.st H 1 rfl rfl rfl rfl rfl ?_; intro h H) | (refine Hp.st H 2 rfl rfl rfl rfl rfl ?_; intro h H) | (refine Hp.st H 3 rfl rfl rfl rfl rfl ?_; intro h H) | (refine Hp.st H 4 rfl rfl rfl rfl rfl ?_; intro h H) | (refine Hp.st H 5 rfl rfl rfl rfl rfl ?_; intro h H) | (intro b h N; replace H := Hp.new H N; clear N) | refine Drawn.mk (by kernel_rfl) ?_ | refine FillK.row rfl ?_ | refine FillK.lit rfl ?_ | refine WrapK.i64 (by omega) (by omega) ?_ | refine WrapK.u64 (by omega) (by omega) ?_ | refine WrapK.u32 (by omega) (by omega) ?_ | refine WrapK.u8 (by omega) (by omega) ?_ | refine iteT (by omega) ?_ | refine iteF (by omega) ?_ | refine iteET (by omega) ?_ | refine iteEF (by omega) ?_ | refine iteNT (by omega) ?_ | refine iteNF (by omega) ?_); conv => whnf)
  refine ⟨Nat, [0, 2, 3, 4, 17], fun i => [(18, .int .i64 (i : Nat))], fun i h' => i ≤ k ∧ Hp h0 h' [Res.ob g (.cells ([.slice (some ⟨b, 0, none⟩) k k, .slice none 0 0, .slice none 0 0, .slice none 0 0] : List Value).toArray 56 (0, 0)), Res.ob b (.cells ((portsAt k i).flatMap VPort.cells).toArray 76 (0, 0))], fun i => k - i, ?_⟩
  conv => whnf
  refine ⟨⟨0, ⟨rfl, trivial⟩, Nat.zero_le _, H⟩, ?_⟩
  clear H
  rintro i h3 ⟨iA, H⟩
  by_cases ci : i < k
  · conv => whnf
    repeat ((first | refine cnd_intro (by first | (simp; done) | (simp; omega) | omega | (simp only [Bool.and_eq_true, decide_eq_true_eq]; omega)) ?_ | refine Hp.ld H 0 rfl rfl ?_ | refine Hp.ld H 1 rfl rfl ?_ | refine Hp.ld H 2 rfl rfl ?_ | refine Hp.ld H 3 rfl rfl ?_ | refine Hp.ld H 4 rfl rfl ?_ | refine Hp.ld H 5 rfl rfl ?_ | (refine Hp.st H 0 rfl rfl rfl rfl rfl ?_; intro h H) | (refine Hp.st H 1 rfl rfl rfl rfl rfl ?_; intro h H) | (refine Hp.st H 2 rfl rfl rfl rfl rfl ?_; intro h H) | (refine Hp.st H 3 rfl rfl rfl rfl rfl ?_; intro h H) | (refine Hp.st H 4 rfl rfl rfl rfl rfl ?_; intro h H) | (refine Hp.st H 5 rfl rfl rfl rfl rfl ?_; intro h H) | (intro b h N; replace H := Hp.new H N; clear N) | refine Drawn.mk (by kernel_rfl) ?_ | refine FillK.row rfl ?_ | refine FillK.lit rfl ?_ | refine WrapK.i64 (by omega) (by omega) ?_ | refine WrapK.u64 (by omega) (by omega) ?_ | refine WrapK.u32 (by omega) (by omega) ?_ | refine WrapK.u8 (by omega) (by omega) ?_ | refine iteT (by omega) ?_ | refine iteF (by omega) ?_ | refine iteET (by omega) ?_ | refine iteEF (by omega) ?_ | refine iteNT (by omega) ?_ | refine iteNF (by omega) ?_); conv => whnf)
    refine Hp.stMid H 1 (a := (List.replicate i p1).flatMap VPort.cells ++ [.int .i64 0]) (q := [.int .i64 0]) (r := [.int .i64 0, .bool false] ++ (List.replicate (k - (i + 1)) p0).flatMap VPort.cells) (y := ⟨.int .i64, 1, 8, false, some (.int .i64 0)⟩) rfl ?_ rfl rfl rfl rfl ?_ ?_
    · have e : k - i = (k - (i + 1)) + 1 := by omega
      unfold portsAt
      rw [e, List.replicate_succ, List.flatMap_append, List.flatMap_cons]
      simp [VPort.cells, p0]
    · rw [List.length_append, flat_length (f := VPort.cells) (n := 4) (fun _ => rfl), List.length_replicate]
      simp
    clear H
    intro h4 H
    conv => whnf
    repeat ((first | refine cnd_intro (by first | (simp; done) | (simp; omega) | omega | (simp only [Bool.and_eq_true, decide_eq_true_eq]; omega)) ?_ | refine Hp.ld H 0 rfl rfl ?_ | refine Hp.ld H 1 rfl rfl ?_ | refine Hp.ld H 2 rfl rfl ?_ | refine Hp.ld H 3 rfl rfl ?_ | refine Hp.ld H 4 rfl rfl ?_ | refine Hp.ld H 5 rfl rfl ?_ | (refine Hp.st H 0 rfl rfl rfl rfl rfl ?_; intro h H) | (refine Hp.st H 1 rfl rfl rfl rfl rfl ?_; intro h H) | (refine Hp.st H 2 rfl rfl rfl rfl rfl ?_; intro h H) | (refine Hp.st H 3 rfl rfl rfl rfl rfl ?_; intro h H) | (refine Hp.st H 4 rfl rfl rfl rfl rfl ?_; intro h H) | (refine Hp.st H 5 rfl rfl rfl rfl rfl ?_; intro h H) | (intro b h N; replace H := Hp.new H N; clear N) | refine Drawn.mk (by kernel_rfl) ?_ | refine FillK.row rfl ?_ | refine FillK.lit rfl ?_ | refine WrapK.i64 (by omega) (by omega) ?_ | refine WrapK.u64 (by omega) (by omega) ?_ | refine WrapK.u32 (by omega) (by omega) ?_ | refine WrapK.u8 (by omega) (by omega) ?_ | refine iteT (by omega) ?_ | refine iteF (by omega) ?_ | refine iteET (by omega) ?_ | refine iteEF (by omega) ?_ | refine iteNT (by omega) ?_ | refine iteNF (by omega) ?_); conv => whnf)
    have e : (List.replicate i p1).flatMap VPort.cells ++ [.int .i64 0] ++ (Value.int .i64 1).cells.toList ++ ([.int .i64 0, .bool false] ++ (List.replicate (k - (i + 1)) p0).flatMap VPort.cells) = (portsAt k (i + 1)).flatMap VPort.cells := by
      unfold portsAt
      rw [List.replicate_succ', List.flatMap_append, List.flatMap_append]
      simp [VPort.cells, p1, Value.cells]
    have H : Hp h0 _ [Res.ob g (.cells ([.slice (some ⟨b, 0, none⟩) k k, .slice none 0 0, .slice none 0 0, .slice none 0 0] : List Value).toArray 56 (0, 0)), Res.ob b (.cells ((List.replicate i p1).flatMap VPort.cells ++ ([.int .i64 0] : List Value) ++ (Value.int .i64 1).cells.toList ++ (([.int .i64 0, .bool false] : List Value) ++ (List.replicate (k - (i + 1)) p0).flatMap VPort.cells)).toArray 76 (0, 0))] := H
    rw [e] at H
    exact ⟨i + 1, ⟨(by first | rfl | (show Value.int .i64 _ = _; congr 1; omega) | (show Value.int .i64 _ = _; rw [wrap64_id (by omega) (by omega)]; first | rfl | (congr 1; omega))), trivial⟩, (by repeat (first | exact trivial | refine ⟨rfl, ?_⟩)), ⟨by omega, H⟩, by show k - (i + 1) < k - i; omega⟩
  obtain rfl : i = k := by omega
  have e : portsAt i i = List.replicate i p1 := by unfold portsAt; rw [Nat.sub_self, List.replicate_zero, List.append_nil]
  rw [e] at H
  clear e iA ci
  replace H := H.whole 1 (n := i) (size := 4) rfl (by rw [flat_length (f := VPort.cells) (n := 4) (fun _ => rfl), List.length_replicate])
  have H : Hp h0 h3 [Res.emp, Res.emp, Res.emp, Res.own (.slice (some ⟨b, 0, none⟩) i i) 76 4 i ((List.replicate i p1).flatMap VPort.cells), Res.ob g (.cells ([.slice (some ⟨b, 0, none⟩) i i, .slice none 0 0, .slice none 0 0, .slice none 0 0] : List Value).toArray 56 (0, 0))] := ((H.sub (ss := [Res.own (.slice (some ⟨b, 0, none⟩) i i) 76 4 i ((List.replicate i p1).flatMap VPort.cells), Res.ob g (.cells ([.slice (some ⟨b, 0, none⟩) i i, .slice none 0 0, .slice none 0 0, .slice none 0 0] : List Value).toArray 56 (0, 0))]) ⟨[], List.Perm.swap _ _ _⟩).emp).emp.emp
  conv => whnf
  repeat ((first | refine cnd_intro (by first | (simp; done) | (simp; omega) | omega | (simp only [Bool.and_eq_true, decide_eq_true_eq]; omega)) ?_ | refine Hp.ld H 0 rfl rfl ?_ | refine Hp.ld H 1 rfl rfl ?_ | refine Hp.ld H 2 rfl rfl ?_ | refine Hp.ld H 3 rfl rfl ?_ | refine Hp.ld H 4 rfl rfl ?_ | refine Hp.ld H 5 rfl rfl ?_ | (refine Hp.st H 0 rfl rfl rfl rfl rfl ?_; intro h H) | (refine Hp.st H 1 rfl rfl rfl rfl rfl ?_; intro h H) | (refine Hp.st H 2 rfl rfl rfl rfl rfl ?_; intro h H) | (refine Hp.st H 3 rfl rfl rfl rfl rfl ?_; intro h H) | (refine Hp.st H 4 rfl rfl rfl rfl rfl ?_; intro h H) | (refine Hp.st H 5 rfl rfl rfl rfl rfl ?_; intro h H) | (intro b h N; replace H := Hp.new H N; clear N) | refine FillK.row rfl ?_ | refine FillK.lit rfl ?_ | refine WrapK.i64 (by omega) (by omega) ?_ | refine WrapK.u64 (by omega) (by omega) ?_ | refine WrapK.u32 (by omega) (by omega) ?_ | refine WrapK.u8 (by omega) (by omega) ?_ | refine iteT (by omega) ?_ | refine iteF (by omega) ?_ | refine iteET (by omega) ?_ | refine iteEF (by omega) ?_ | refine iteNT (by omega) ?_ | refine iteNF (by omega) ?_); conv => whnf)
  have hb := shl_one hk16
  refine Drawn.keys [0, 1, 2, 4, 5, 6, 8, 9, 10, 12, 13, 15, 16, 18, 19] [(3, []), (7, []), (11, []), (14, [3]), (17, [7, 14]), (20, [11, 17])] [] (by kernel_rfl) ?_
  conv => whnf
  rw [hb]
  conv => whnf
  repeat ((first | refine cnd_intro (by first | (simp; done) | (simp; omega) | omega | (simp only [Bool.and_eq_true, decide_eq_true_eq]; omega)) ?_ | refine Hp.ld H 0 rfl rfl ?_ | refine Hp.ld H 1 rfl rfl ?_ | refine Hp.ld H 2 rfl rfl ?_ | refine Hp.ld H 3 rfl rfl ?_ | refine Hp.ld H 4 rfl rfl ?_ | refine Hp.ld H 5 rfl rfl ?_ | (refine Hp.st H 0 rfl rfl rfl rfl rfl ?_; intro h H) | (refine Hp.st H 1 rfl rfl rfl rfl rfl ?_; intro h H) | (refine Hp.st H 2 rfl rfl rfl rfl rfl ?_; intro h H) | (refine Hp.st H 3 rfl rfl rfl rfl rfl ?_; intro h H) | (refine Hp.st H 4 rfl rfl rfl rfl rfl ?_; intro h H) | (refine Hp.st H 5 rfl rfl rfl rfl rfl ?_; intro h H) | (intro b h N; replace H := Hp.new H N; clear N) | refine Drawn.mk (by kernel_rfl) ?_ | refine FillK.row rfl ?_ | refine FillK.lit rfl ?_ | refine WrapK.i64 (by omega) (by omega) ?_ | refine WrapK.u64 (by omega) (by omega) ?_ | refine WrapK.u32 (by omega) (by omega) ?_ | refine WrapK.u8 (by omega) (by omega) ?_ | refine iteT (by omega) ?_ | refine iteF (by omega) ?_ | refine iteET (by omega) ?_ | refine iteEF (by omega) ?_ | refine iteNT (by omega) ?_ | refine iteNF (by omega) ?_); conv => whnf)
  rw [hb]
  conv => whnf
  repeat ((first | refine cnd_intro (by first | (simp; done) | (simp; omega) | omega | (simp only [Bool.and_eq_true, decide_eq_true_eq]; omega)) ?_ | refine Hp.ld H 0 rfl rfl ?_ | refine Hp.ld H 1 rfl rfl ?_ | refine Hp.ld H 2 rfl rfl ?_ | refine Hp.ld H 3 rfl rfl ?_ | refine Hp.ld H 4 rfl rfl ?_ | refine Hp.ld H 5 rfl rfl ?_ | (refine Hp.st H 0 rfl rfl rfl rfl rfl ?_; intro h H) | (refine Hp.st H 1 rfl rfl rfl rfl rfl ?_; intro h H) | (refine Hp.st H 2 rfl rfl rfl rfl rfl ?_; intro h H) | (refine Hp.st H 3 rfl rfl rfl rfl rfl ?_; intro h H) | (refine Hp.st H 4 rfl rfl rfl rfl rfl ?_; intro h H) | (refine Hp.st H 5 rfl rfl rfl rfl rfl ?_; intro h H) | (intro b h N; replace H := Hp.new H N; clear N) | refine Drawn.mk (by kernel_rfl) ?_ | refine FillK.row rfl ?_ | refine FillK.lit rfl ?_ | refine WrapK.i64 (by omega) (by omega) ?_ | refine WrapK.u64 (by omega) (by omega) ?_ | refine WrapK.u32 (by omega) (by omega) ?_ | refine WrapK.u8 (by omega) (by omega) ?_ | refine iteT (by omega) ?_ | refine iteF (by omega) ?_ | refine iteET (by omega) ?_ | refine iteEF (by omega) ?_ | refine iteNT (by omega) ?_ | refine iteNF (by omega) ?_); conv => whnf)
  refine ⟨fun D val h => Hp h0 h [Res.opt (D 3) (Res.own (val 3) 3 1 1 [.int .i64 1]), Res.opt (D 7) (Res.own (val 7) 3 1 1 [.int .i64 (((2 ^ i : Nat) : Int) - 1)]), Res.opt (D 11) (Res.own (val 11) 3 1 1 [.int .i64 (((2 ^ i : Nat) : Int) - 1)]),
    Res.own (.slice (some ⟨b, 0, none⟩) i i) 76 4 i ((List.replicate i p1).flatMap VPort.cells), Res.ob g (.cells ([.slice (some ⟨b, 0, none⟩) i i, cond (D 14) (val 3) (.slice none 0 0), cond (D 17) (val 7) (.slice none 0 0), cond (D 20) (val 11) (.slice none 0 0)] : List Value).toArray 56 (0, 0))], fun _ => .bool false, H, And.intro ?_ (And.intro ?_ (And.intro ?_ (And.intro ?_ (And.intro ?_ (And.intro ?_ trivial))))), ?_⟩
  · intro D val h4 H
    conv => whnf
    refine FillK.row rfl ?_
    conv => whnf
    intro b1 h5 N
    exact ((H.new N).whole 0 (n := 1) (size := 1) (xs := [.int .i64 1]) rfl rfl).fill 0 rfl
  · intro D val h4 H
    conv => whnf
    refine FillK.row rfl ?_
    conv => whnf
    intro b1 h5 N
    exact ((H.new N).whole 0 (n := 1) (size := 1) (xs := [.int .i64 (((2 ^ i : Nat) : Int) - 1)]) rfl rfl).fill 1 rfl
  · intro D val h4 H
    conv => whnf
    refine FillK.row rfl ?_
    conv => whnf
    intro b1 h5 N
    exact ((H.new N).whole 0 (n := 1) (size := 1) (xs := [.int .i64 (((2 ^ i : Nat) : Int) - 1)]) rfl rfl).fill 2 rfl
  · intro D val h4 H
    obtain ⟨A, c, hv⟩ := own_shape (H.get 0 rfl)
    conv => whnf
    refine Hp.stAt H 4 rfl (y := ⟨.slice 3, 1, 24, false, some (.slice none 0 0)⟩) (o := 1) rfl rfl (by rw [hv]; rfl) (by rw [hv]; rfl) rfl (by show 1 < 4; decide) ?_
    intro h5 H
    exact H
  · intro D val h4 H
    obtain ⟨A, c, hv⟩ := own_shape (H.get 1 rfl)
    conv => whnf
    refine Hp.stAt H 4 rfl (y := ⟨.slice 3, 1, 24, false, some (.slice none 0 0)⟩) (o := 2) rfl rfl (by rw [hv]; rfl) (by rw [hv]; rfl) rfl (by show 2 < 4; decide) ?_
    intro h5 H
    exact H
  · intro D val h4 H
    obtain ⟨A, c, hv⟩ := own_shape (H.get 2 rfl)
    conv => whnf
    refine Hp.stAt H 4 rfl (y := ⟨.slice 3, 1, 24, false, some (.slice none 0 0)⟩) (o := 3) rfl rfl (by rw [hv]; rfl) (by rw [hv]; rfl) rfl (by show 3 < 4; decide) ?_
    intro h5 H
    exact H
  · intro val h4 H
    conv => whnf
    repeat ((first | refine cnd_intro (by first | (simp; done) | (simp; omega) | omega | (simp only [Bool.and_eq_true, decide_eq_true_eq]; omega)) ?_ | refine Hp.ld H 0 rfl rfl ?_ | refine Hp.ld H 1 rfl rfl ?_ | refine Hp.ld H 2 rfl rfl ?_ | refine Hp.ld H 3 rfl rfl ?_ | refine Hp.ld H 4 rfl rfl ?_ | refine Hp.ld H 5 rfl rfl ?_ | (refine Hp.st H 0 rfl rfl rfl rfl rfl ?_; intro h H) | (refine Hp.st H 1 rfl rfl rfl rfl rfl ?_; intro h H) | (refine Hp.st H 2 rfl rfl rfl rfl rfl ?_; intro h H) | (refine Hp.st H 3 rfl rfl rfl rfl rfl ?_; intro h H) | (refine Hp.st H 4 rfl rfl rfl rfl rfl ?_; intro h H) | (refine Hp.st H 5 rfl rfl rfl rfl rfl ?_; intro h H) | (intro b h N; replace H := Hp.new H N; clear N) | refine Drawn.mk (by kernel_rfl) ?_ | refine FillK.row rfl ?_ | refine FillK.lit rfl ?_ | refine WrapK.i64 (by omega) (by omega) ?_ | refine WrapK.u64 (by omega) (by omega) ?_ | refine WrapK.u32 (by omega) (by omega) ?_ | refine WrapK.u8 (by omega) (by omega) ?_ | refine iteT (by omega) ?_ | refine iteF (by omega) ?_ | refine iteET (by omega) ?_ | refine iteEF (by omega) ?_ | refine iteNT (by omega) ?_ | refine iteNF (by omega) ?_); conv => whnf)
    refine ⟨g, _, val 3, val 7, val 11, rfl, vt_close (H.sub (ss := [Res.own (.slice (some ⟨b, 0, none⟩) i i) 76 4 i ((List.replicate i p1).flatMap VPort.cells), Res.own (val 3) 3 1 1 [.int .i64 1], Res.own (val 7) 3 1 1 [.int .i64 (((2 ^ i : Nat) : Int) - 1)], Res.own (val 11) 3 1 1 [.int .i64 (((2 ^ i : Nat) : Int) - 1)], Res.ob g (.cells ([.slice (some ⟨b, 0, none⟩) i i, val 3, val 7, val 11] : List Value).toArray 56 (0, 0))]) ⟨[], ?_⟩) (by rw [List.length_replicate]) rfl rfl rfl rfl rfl rfl rfl⟩
    exact perm4 _ _ _ _ _

def okPort (p : VPort) : Bool := decide (0 ≤ p.accept ∧ p.accept ≤ 2 ∧ 1 ≤ p.pvid ∧ p.pvid ≤ 4094 ∧ 0 ≤ p.pcp ∧ p.pcp ≤ 7)

def setPF (q : Int) (p : VPort) (ps : List VPort) : Nat × List VPort :=
  if 0 ≤ q ∧ q < ps.length ∧ okPort p = true then (0, ps.set q.toNat p) else (1, ps)

end Go.Proofs.Ytcjilkemfmhkgaa
