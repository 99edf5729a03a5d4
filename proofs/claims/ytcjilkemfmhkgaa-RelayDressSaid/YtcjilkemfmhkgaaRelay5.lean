import Derived.Test.YtcjilkemfmhkgaaRelay4
namespace Go.Proofs.Ytcjilkemfmhkgaa
open Go.Vc
set_option maxRecDepth 10000
set_option maxHeartbeats 4000000

/-! ### relay: a bridge; the reasons' names -/

theorem bridge_call {h0 h : Heap} {rs : List Res} {sS : Value} {sts : List Int} (H : Hp h0 h (Res.own sS 3 1 sts.length (sts.flatMap rI) :: rs)) :
    CallK Try.prog 8 #[sS] h fun v h' => ∃ g gF s0 s1 s2 s3, v = .agg (brg g gF sS).toArray ∧
      Hp h0 h' (Res.vt g s0 s1 s2 s3 (List.replicate (portsN sts.length) p1) [⟨1, ((2 ^ portsN sts.length : Nat) : Int) - 1, ((2 ^ portsN sts.length : Nat) : Int) - 1⟩] :: Res.ft gF (.slice none 0 0) [] 10 1000 0 :: Res.own sS 3 1 sts.length (sts.flatMap rI) :: rs) := by
  obtain ⟨A, c, rfl⟩ := own_shape (H.get 0 rfl)
  refine CallK.of_vc EW_ok [0, 2] Try.func8 rfl (Nat.le_of_ble_eq_true rfl) ?_
  conv => whnf
  intro b h1 N
  replace H := H.new N
  clear N
  conv => whnf
  refine CallK.mono (new_call _ sts.length) ?_
  rintro _ h2 ⟨g, s0, s1, s2, s3, rfl, H2⟩
  replace H := H.join H2
  conv => whnf
  refine CallK.mono (fnew_call _ 10 1000) ?_
  rintro _ h3 ⟨gF, rfl, H3⟩
  replace H := H.join H3
  conv => whnf
  repeat ((first | refine cnd_intro (by first | (simp; done) | (simp; omega) | omega | (simp only [Bool.and_eq_true, decide_eq_true_eq]; omega)) ?_ | refine Hp.ld H 0 rfl rfl ?_ | refine Hp.ld H 1 rfl rfl ?_ | refine Hp.ld H 2 rfl rfl ?_ | refine Hp.ld H 3 rfl rfl ?_ | refine Hp.ld H 4 rfl rfl ?_ | refine Hp.ld H 5 rfl rfl ?_ | (refine Hp.st H 0 rfl rfl rfl rfl rfl ?_; intro h H) | (refine Hp.st H 1 rfl rfl rfl rfl rfl ?_; intro h H) | (refine Hp.st H 2 rfl rfl rfl rfl rfl ?_; intro h H) | (refine Hp.st H 3 rfl rfl rfl rfl rfl ?_; intro h H) | (refine Hp.st H 4 rfl rfl rfl rfl rfl ?_; intro h H) | (refine Hp.st H 5 rfl rfl rfl rfl rfl ?_; intro h H) | (intro b h N; replace H := Hp.new H N; clear N) | refine Drawn.mk (by kernel_rfl) ?_ | refine FillK.row rfl ?_ | refine FillK.lit rfl ?_ | refine WrapK.i64 (by omega) (by omega) ?_ | refine WrapK.u64 (by omega) (by omega) ?_ | refine WrapK.u32 (by omega) (by omega) ?_ | refine WrapK.u8 (by omega) (by omega) ?_ | refine iteT (by omega) ?_ | refine iteF (by omega) ?_ | refine iteET (by omega) ?_ | refine iteEF (by omega) ?_ | refine iteNT (by omega) ?_ | refine iteNF (by omega) ?_); conv => whnf)
  have HH : Hp h0 h (Res.ft gF (.slice none 0 0) [] 10 1000 0 :: Res.vt g s0 s1 s2 s3 (List.replicate (portsN sts.length) p1) [⟨1, ((2 ^ portsN sts.length : Nat) : Int) - 1, ((2 ^ portsN sts.length : Nat) : Int) - 1⟩] :: Res.ob _ _ :: Res.own (.slice A sts.length c) 3 1 sts.length (sts.flatMap rI) :: rs) := H
  exact ⟨g, gF, s0, s1, s2, s3, rfl, (HH.drop 2).sub ⟨[], by rw [List.append_nil]; exact List.Perm.swap _ _ _⟩⟩

def nmL : List ByteArray := [⟨#[103, 111, 101, 115]⟩, ⟨#[114, 101, 115, 101, 114, 118, 101, 100]⟩, ⟨#[114, 101, 102, 117, 115, 101, 100]⟩, ⟨#[102, 111, 114, 101, 105, 103, 110]⟩, ⟨#[98, 108, 111, 99, 107, 101, 100]⟩, ⟨#[108, 111, 99, 97, 108]⟩, ⟨#[98, 97, 114, 114, 101, 100]⟩, ⟨#[110, 111, 119, 104, 101, 114, 101]⟩]
def nameB (n : Int) : ByteArray := if n < 0 then ⟨#[]⟩ else (nmL[n.toNat]?).getD ⟨#[]⟩

theorem StrK.same {a : ByteArray} {K : Bool → Prop} (k : K true) : StrK a a K := ⟨by rw [beq_self_eq_true]; exact k⟩

theorem name_call (h0 : Heap) (n : Int) : CallK Try.prog 7 #[.int .i64 n] h0 fun v h' => Keep (fun _ => False) h0 h' ∧ v = .string (nameB n) := by
  refine CallK.of_vc EW_ok [0, 2, 8] Try.func7 rfl (Nat.le_of_ble_eq_true rfl) ?_
  have H := Hp.start h0
  by_cases c1 : n < 0
  · have e : nameB n = ⟨#[]⟩ := by unfold nameB; rw [if_pos c1]
    rw [e]
    conv => whnf
    repeat ((first | refine cnd_intro (by first | (simp; done) | (simp; omega) | omega | (simp only [Bool.and_eq_true, decide_eq_true_eq]; omega)) ?_ | refine Hp.ld H 0 rfl rfl ?_ | refine Hp.ld H 1 rfl rfl ?_ | refine Hp.ld H 2 rfl rfl ?_ | refine Hp.ld H 3 rfl rfl ?_ | refine Hp.ld H 4 rfl rfl ?_ | refine Hp.ld H 5 rfl rfl ?_ | (refine Hp.st H 0 rfl rfl rfl rfl rfl ?_; intro h H) | (refine Hp.st H 1 rfl rfl rfl rfl rfl ?_; intro h H) | (refine Hp.st H 2 rfl rfl rfl rfl rfl ?_; intro h H) | (refine Hp.st H 3 rfl rfl rfl rfl rfl ?_; intro h H) | (refine Hp.st H 4 rfl rfl rfl rfl rfl ?_; intro h H) | (refine Hp.st H 5 rfl rfl rfl rfl rfl ?_; intro h H) | (intro b h N; replace H := Hp.new H N; clear N) | refine Drawn.mk (by kernel_rfl) ?_ | refine FillK.row rfl ?_ | refine FillK.lit rfl ?_ | refine WrapK.i64 (by omega) (by omega) ?_ | refine WrapK.u64 (by omega) (by omega) ?_ | refine WrapK.u32 (by omega) (by omega) ?_ | refine WrapK.u8 (by omega) (by omega) ?_ | refine iteT (by omega) ?_ | refine iteF (by omega) ?_ | refine iteET (by omega) ?_ | refine iteEF (by omega) ?_ | refine iteNT (by omega) ?_ | refine iteNF (by omega) ?_); conv => whnf)
    exact ⟨H.keep, rfl⟩
  by_cases c2 : n ≥ 8
  · have e : nameB n = ⟨#[]⟩ := by
      unfold nameB
      rw [if_neg c1, List.getElem?_eq_none (by show 8 ≤ _; omega)]
      rfl
    rw [e]
    conv => whnf
    repeat ((first | refine cnd_intro (by first | (simp; done) | (simp; omega) | omega | (simp only [Bool.and_eq_true, decide_eq_true_eq]; omega)) ?_ | refine Hp.ld H 0 rfl rfl ?_ | refine Hp.ld H 1 rfl rfl ?_ | refine Hp.ld H 2 rfl rfl ?_ | refine Hp.ld H 3 rfl rfl ?_ | refine Hp.ld H 4 rfl rfl ?_ | refine Hp.ld H 5 rfl rfl ?_ | (refine Hp.st H 0 rfl rfl rfl rfl rfl ?_; intro h H) | (refine Hp.st H 1 rfl rfl rfl rfl rfl ?_; intro h H) | (refine Hp.st H 2 rfl rfl rfl rfl rfl ?_; intro h H) | (refine Hp.st H 3 rfl rfl rfl rfl rfl ?_; intro h H) | (refine Hp.st H 4 rfl rfl rfl rfl rfl ?_; intro h H) | (refine Hp.st H 5 rfl rfl rfl rfl rfl ?_; intro h H) | (intro b h N; replace H := Hp.new H N; clear N) | refine Drawn.mk (by kernel_rfl) ?_ | refine FillK.row rfl ?_ | refine FillK.lit rfl ?_ | refine WrapK.i64 (by omega) (by omega) ?_ | refine WrapK.u64 (by omega) (by omega) ?_ | refine WrapK.u32 (by omega) (by omega) ?_ | refine WrapK.u8 (by omega) (by omega) ?_ | refine iteT (by omega) ?_ | refine iteF (by omega) ?_ | refine iteET (by omega) ?_ | refine iteEF (by omega) ?_ | refine iteNT (by omega) ?_ | refine iteNF (by omega) ?_); conv => whnf)
    exact ⟨H.keep, rfl⟩
  have hX : n = 0 ∨ n = 1 ∨ n = 2 ∨ n = 3 ∨ n = 4 ∨ n = 5 ∨ n = 6 ∨ n = 7 := by omega
  rcases hX with rfl | rfl | rfl | rfl | rfl | rfl | rfl | rfl
  all_goals
    conv => whnf
    repeat ((first | refine cnd_intro (by first | (simp; done) | (simp; omega) | omega | (simp only [Bool.and_eq_true, decide_eq_true_eq]; omega)) ?_ | refine Hp.ld H 0 rfl rfl ?_ | refine Hp.ld H 1 rfl rfl ?_ | refine Hp.ld H 2 rfl rfl ?_ | refine Hp.ld H 3 rfl rfl ?_ | refine Hp.ld H 4 rfl rfl ?_ | refine Hp.ld H 5 rfl rfl ?_ | (refine Hp.st H 0 rfl rfl rfl rfl rfl ?_; intro h H) | (refine Hp.st H 1 rfl rfl rfl rfl rfl ?_; intro h H) | (refine Hp.st H 2 rfl rfl rfl rfl rfl ?_; intro h H) | (refine Hp.st H 3 rfl rfl rfl rfl rfl ?_; intro h H) | (refine Hp.st H 4 rfl rfl rfl rfl rfl ?_; intro h H) | (refine Hp.st H 5 rfl rfl rfl rfl rfl ?_; intro h H) | (intro b h N; replace H := Hp.new H N; clear N) | refine Drawn.mk (by kernel_rfl) ?_ | refine FillK.row rfl ?_ | refine FillK.lit rfl ?_ | refine WrapK.i64 (by omega) (by omega) ?_ | refine WrapK.u64 (by omega) (by omega) ?_ | refine WrapK.u32 (by omega) (by omega) ?_ | refine WrapK.u8 (by omega) (by omega) ?_ | refine iteT (by omega) ?_ | refine iteF (by omega) ?_ | refine iteET (by omega) ?_ | refine iteEF (by omega) ?_ | refine iteNT (by omega) ?_ | refine iteNF (by omega) ?_); conv => whnf)
    refine ⟨⟨_, rfl, ?_⟩⟩
    conv => whnf
    repeat ((first | refine cnd_intro (by first | (simp; done) | (simp; omega) | omega | (simp only [Bool.and_eq_true, decide_eq_true_eq]; omega)) ?_ | refine Hp.ld H 0 rfl rfl ?_ | refine Hp.ld H 1 rfl rfl ?_ | refine Hp.ld H 2 rfl rfl ?_ | refine Hp.ld H 3 rfl rfl ?_ | refine Hp.ld H 4 rfl rfl ?_ | refine Hp.ld H 5 rfl rfl ?_ | (refine Hp.st H 0 rfl rfl rfl rfl rfl ?_; intro h H) | (refine Hp.st H 1 rfl rfl rfl rfl rfl ?_; intro h H) | (refine Hp.st H 2 rfl rfl rfl rfl rfl ?_; intro h H) | (refine Hp.st H 3 rfl rfl rfl rfl rfl ?_; intro h H) | (refine Hp.st H 4 rfl rfl rfl rfl rfl ?_; intro h H) | (refine Hp.st H 5 rfl rfl rfl rfl rfl ?_; intro h H) | (intro b h N; replace H := Hp.new H N; clear N) | refine Drawn.mk (by kernel_rfl) ?_ | refine FillK.row rfl ?_ | refine FillK.lit rfl ?_ | refine WrapK.i64 (by omega) (by omega) ?_ | refine WrapK.u64 (by omega) (by omega) ?_ | refine WrapK.u32 (by omega) (by omega) ?_ | refine WrapK.u8 (by omega) (by omega) ?_ | refine iteT (by omega) ?_ | refine iteF (by omega) ?_ | refine iteET (by omega) ?_ | refine iteEF (by omega) ?_ | refine iteNT (by omega) ?_ | refine iteNF (by omega) ?_); conv => whnf)
    exact ⟨H.keep, rfl⟩

end Go.Proofs.Ytcjilkemfmhkgaa
