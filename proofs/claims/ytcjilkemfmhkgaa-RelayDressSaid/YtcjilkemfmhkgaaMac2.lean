import Derived.Test.YtcjilkemfmhkgaaMac1
namespace Go.Proofs.Ytcjilkemfmhkgaa
open Go.Vc
set_option maxRecDepth 10000
set_option maxHeartbeats 4000000

/-! ### mac: frames are built -/

theorem packF_step {x s n all : Nat} {r : List (Nat × Nat)} (hs : s < 64) (hx : x < 2 ^ s) (ha : all + s ≤ 64) (hn : n < 2 ^ all) : packF ((x, s) :: r) n all = packF r (n * 2 ^ s + x) (all + s) := by
  simp only [packF]
  have h0 : x / 2 ^ s = 0 := Nat.div_eq_of_lt hx
  have hns : n * 2 ^ s < 2 ^ (all + s) := by
    rw [Nat.pow_add]
    exact Nat.mul_lt_mul_of_pos_right hn (Nat.pow_pos (by omega))
  have hle : 2 ^ (all + s) ≤ 2 ^ 64 := Nat.pow_le_pow_right (by omega) (by omega)
  have h64 : (2 : Nat) ^ 64 = 18446744073709551616 := by decide
  rw [if_neg (by rintro (h | ⟨_, h⟩); · omega
                 · exact h h0), if_neg (by omega), Nat.mod_eq_of_lt (by omega), or_low hx]

def tagN (p d v : Nat) : Nat := ((33024 * 8 + p) * 2 + d) * 4096 + v

theorem packF_tag {p d v : Nat} (hp : p < 8) (hd : d < 2) (hv : v < 4096) : packF [(33024, 16), (p, 3), (d, 1), (v, 12)] 0 0 = some (tagN p d v) := by
  rw [packF_step (by decide) (by decide) (by decide) (by decide), packF_step (by decide) hp (by decide) (by decide), packF_step (by decide) hd (by decide) ?_, packF_step (by decide) hv (by decide) ?_]
  · simp only [packF, tagN]
  · show _ < 2 ^ 20
    have : (2 : Nat) ^ 20 = 1048576 := by decide
    have : (2 : Nat) ^ 3 = 8 := by decide
    have : (2 : Nat) ^ 1 = 2 := by decide
    omega
  · show _ < 2 ^ 19
    have : (2 : Nat) ^ 19 = 524288 := by decide
    have : (2 : Nat) ^ 3 = 8 := by decide
    omega

def Hdr.tagB (h : Hdr) : List UInt8 := beBytes (tagN h.pcp.toNat h.dei.toNat h.vid.toNat) 4

theorem tag_call (h0 : Heap) (h : Hdr) (hp : 0 ≤ h.pcp ∧ h.pcp ≤ 7) (hv : 0 ≤ h.vid ∧ h.vid ≤ 4094) : CallK Try.prog 27 #[.agg h.cells.toArray] h0 fun v h' => Keep (fun _ => False) h0 h' ∧ OwnS h0.size h' 5 1 v 4 (h.tagB.map byteV) := by
  obtain ⟨dst, src, tagged, pcp, dei, vid, typ, llc⟩ := h
  unfold Hdr.tagB
  dsimp only at *
  obtain ⟨p, rfl⟩ := Int.eq_ofNat_of_zero_le hp.1
  obtain ⟨w, rfl⟩ := Int.eq_ofNat_of_zero_le hv.1
  have hpk : ∀ d, d < 2 → packF [(33024, 16), (p, 3), (d, 1), (w, 12)] 0 0 = some (tagN p d w) := fun d hd => packF_tag (by omega) hd (by omega)
  have hlt : ∀ d, d < 2 → tagN p d w < 4294967296 := fun d hd => by unfold tagN; omega
  have ep : ((p : Nat) : Int).toNat = p := rfl
  have ew : ((w : Nat) : Int).toNat = w := rfl
  rw [ep, ew]
  dsimp only [Hdr.cells]
  refine CallK.of_vc EW_ok [0, 1, 2, 3, 4, 6, 9] Try.func27 rfl (Nat.le_of_ble_eq_true rfl) ?_
  have H := Hp.start h0
  obtain ⟨d, hd, hd2⟩ : ∃ d : Nat, d = dei.toNat ∧ d < 2 := ⟨dei.toNat, rfl, by cases dei <;> decide⟩
  rw [← hd]
  cases dei
  all_goals
    replace hd : d = _ := hd
    subst hd
    conv => whnf
    repeat ((first | refine cnd_intro (by first | (simp; done) | (simp; omega) | omega | (simp only [Bool.and_eq_true, decide_eq_true_eq]; omega)) ?_ | refine Hp.ld H 0 rfl rfl ?_ | refine Hp.ld H 1 rfl rfl ?_ | refine Hp.ld H 2 rfl rfl ?_ | refine Hp.ld H 3 rfl rfl ?_ | refine Hp.ld H 4 rfl rfl ?_ | refine Hp.ld H 5 rfl rfl ?_ | (refine Hp.st H 0 rfl rfl rfl rfl rfl ?_; intro h H) | (refine Hp.st H 1 rfl rfl rfl rfl rfl ?_; intro h H) | (refine Hp.st H 2 rfl rfl rfl rfl rfl ?_; intro h H) | (refine Hp.st H 3 rfl rfl rfl rfl rfl ?_; intro h H) | (refine Hp.st H 4 rfl rfl rfl rfl rfl ?_; intro h H) | (refine Hp.st H 5 rfl rfl rfl rfl rfl ?_; intro h H) | (intro b h N; replace H := Hp.new H N; clear N) | refine Drawn.mk (by kernel_rfl) ?_ | refine FillK.row rfl ?_ | refine FillK.lit rfl ?_ | refine WrapK.i64 (by omega) (by omega) ?_ | refine WrapK.u64 (by omega) (by omega) ?_ | refine WrapK.u32 (by omega) (by omega) ?_ | refine WrapK.u8 (by omega) (by omega) ?_ | refine iteT (by omega) ?_ | refine iteF (by omega) ?_ | refine iteET (by omega) ?_ | refine iteEF (by omega) ?_ | refine iteNT (by omega) ?_ | refine iteNF (by omega) ?_); conv => whnf)
    have r3 := H.row 0 (xs := [(33024, 16), (p, 3), (_, 1), (w, 12)].flatMap pairCells) rfl rfl
    refine CallK.mono (pack_call _ _ 4 4 [(33024, 16), (p, 3), (_, 1), (w, 12)] rfl (by decide) (fun i q hq => ⟨r3.piece (fun _ => rfl) (by decide) hq, ?_⟩)) ?_
    · have : q ∈ _ := List.mem_of_getElem? hq
      simp only [List.mem_cons, List.not_mem_nil, or_false] at this
      rcases this with rfl | rfl | rfl | rfl
      · decide
      · show p < _ ∧ 3 < _; omega
      · decide
      · show w < _ ∧ 12 < _; omega
    rintro _ h3 ⟨k3, rfl⟩
    replace H := H.and k3
    first | rw [show packF [(33024, 16), (p, 3), (0, 1), (w, 12)] 0 0 = some (tagN p false.toNat w) from hpk _ hd2] | rw [show packF [(33024, 16), (p, 3), (1, 1), (w, 12)] 0 0 = some (tagN p true.toNat w) from hpk _ hd2]
    have hl := hlt _ hd2
    generalize tagN p _ w = N at *
    conv => whnf
    repeat ((first | refine cnd_intro (by first | (simp; done) | (simp; omega) | omega | (simp only [Bool.and_eq_true, decide_eq_true_eq]; omega)) ?_ | refine Hp.ld H 0 rfl rfl ?_ | refine Hp.ld H 1 rfl rfl ?_ | refine Hp.ld H 2 rfl rfl ?_ | refine Hp.ld H 3 rfl rfl ?_ | refine Hp.ld H 4 rfl rfl ?_ | refine Hp.ld H 5 rfl rfl ?_ | (refine Hp.st H 0 rfl rfl rfl rfl rfl ?_; intro h H) | (refine Hp.st H 1 rfl rfl rfl rfl rfl ?_; intro h H) | (refine Hp.st H 2 rfl rfl rfl rfl rfl ?_; intro h H) | (refine Hp.st H 3 rfl rfl rfl rfl rfl ?_; intro h H) | (refine Hp.st H 4 rfl rfl rfl rfl rfl ?_; intro h H) | (refine Hp.st H 5 rfl rfl rfl rfl rfl ?_; intro h H) | (intro b h N; replace H := Hp.new H N; clear N) | refine Drawn.mk (by kernel_rfl) ?_ | refine FillK.row rfl ?_ | refine FillK.lit rfl ?_ | refine WrapK.i64 (by omega) (by omega) ?_ | refine WrapK.u64 (by omega) (by omega) ?_ | refine WrapK.u32 (by omega) (by omega) ?_ | refine WrapK.u8 (by omega) (by omega) ?_ | refine iteT (by omega) ?_ | refine iteF (by omega) ?_ | refine iteET (by omega) ?_ | refine iteEF (by omega) ?_ | refine iteNT (by omega) ?_ | refine iteNF (by omega) ?_); conv => whnf)
    refine CallK.mono (put_call _ N 4 (by omega) (by decide) (by decide)) ?_
    rintro _ h4 ⟨k4, h4e⟩
    rw [if_pos ⟨by decide, by decide, by show N < 256 ^ 4; have : (256 : Nat) ^ 4 = 4294967296 := by decide
                                         omega⟩] at h4e
    obtain ⟨s, rfl, o4⟩ := h4e
    replace H := H.made o4 k4
    conv => whnf
    repeat ((first | refine cnd_intro (by first | (simp; done) | (simp; omega) | omega | (simp only [Bool.and_eq_true, decide_eq_true_eq]; omega)) ?_ | refine Hp.ld H 0 rfl rfl ?_ | refine Hp.ld H 1 rfl rfl ?_ | refine Hp.ld H 2 rfl rfl ?_ | refine Hp.ld H 3 rfl rfl ?_ | refine Hp.ld H 4 rfl rfl ?_ | refine Hp.ld H 5 rfl rfl ?_ | (refine Hp.st H 0 rfl rfl rfl rfl rfl ?_; intro h H) | (refine Hp.st H 1 rfl rfl rfl rfl rfl ?_; intro h H) | (refine Hp.st H 2 rfl rfl rfl rfl rfl ?_; intro h H) | (refine Hp.st H 3 rfl rfl rfl rfl rfl ?_; intro h H) | (refine Hp.st H 4 rfl rfl rfl rfl rfl ?_; intro h H) | (refine Hp.st H 5 rfl rfl rfl rfl rfl ?_; intro h H) | (intro b h N; replace H := Hp.new H N; clear N) | refine Drawn.mk (by kernel_rfl) ?_ | refine FillK.row rfl ?_ | refine FillK.lit rfl ?_ | refine WrapK.i64 (by omega) (by omega) ?_ | refine WrapK.u64 (by omega) (by omega) ?_ | refine WrapK.u32 (by omega) (by omega) ?_ | refine WrapK.u8 (by omega) (by omega) ?_ | refine iteT (by omega) ?_ | refine iteF (by omega) ?_ | refine iteET (by omega) ?_ | refine iteEF (by omega) ?_ | refine iteNT (by omega) ?_ | refine iteNF (by omega) ?_); conv => whnf)
    exact ⟨H.keep, H.own_out 0 rfl⟩

def padL (L : List UInt8) : List UInt8 := L ++ List.replicate (60 - L.length) 0

theorem finish_call {h0 h : Heap} {rs : List Res} (H : Hp h0 h rs) (i : Nat) (v : Value) (n : Nat) (L : List UInt8) (hn : nth rs i = some (Res.own v 5 1 n (L.map byteV))) (hl : L.length ≤ 1000000) :
    CallK Try.prog 29 #[v] h fun v' h' => Hp h0 h' (Res.own v' 5 1 (sealL (padL L)).length ((sealL (padL L)).map byteV) :: delN rs i) := by
  have hnl : n = L.length := by have := (H.get i hn).1; simpa using this
  subst hnl
  refine CallK.of_vc EW_ok [0, 2, 5] Try.func29 rfl (Nat.le_of_ble_eq_true rfl) ?_
  replace H := H.pick i hn
  conv => whnf
  refine ⟨Nat × Value, [2], fun j => [(0, j.2)], fun j h' => j.1 ≤ 60 - L.length ∧ Hp h0 h' (Res.own j.2 5 1 (L ++ List.replicate j.1 0).length ((L ++ List.replicate j.1 (0 : UInt8)).map byteV) :: delN rs i), fun j => 60 - L.length - j.1, ?_⟩
  conv => whnf
  refine ⟨⟨(0, v), ⟨rfl, trivial⟩, by show 0 ≤ 60 - L.length; omega, by simpa using H⟩, ?_⟩
  clear H
  rintro ⟨j, s⟩ h3 ⟨jA, H⟩
  dsimp only at jA H ⊢
  have hb := H.bytesOwn 0 rfl
  obtain ⟨sA, sc, rfl, _, _, _⟩ := hb.out
  have hlen : (L ++ List.replicate j (0 : UInt8)).length = L.length + j := by simp
  rw [hlen] at H
  by_cases cj : L.length + j < 60
  · conv => whnf
    rw [hlen]
    conv => whnf
    repeat ((first | refine cnd_intro (by first | (simp; done) | (simp; omega) | omega | (simp only [Bool.and_eq_true, decide_eq_true_eq]; omega)) ?_ | refine Hp.ld H 0 rfl rfl ?_ | refine Hp.ld H 1 rfl rfl ?_ | refine Hp.ld H 2 rfl rfl ?_ | refine Hp.ld H 3 rfl rfl ?_ | refine Hp.ld H 4 rfl rfl ?_ | refine Hp.ld H 5 rfl rfl ?_ | (refine Hp.st H 0 rfl rfl rfl rfl rfl ?_; intro h H) | (refine Hp.st H 1 rfl rfl rfl rfl rfl ?_; intro h H) | (refine Hp.st H 2 rfl rfl rfl rfl rfl ?_; intro h H) | (refine Hp.st H 3 rfl rfl rfl rfl rfl ?_; intro h H) | (refine Hp.st H 4 rfl rfl rfl rfl rfl ?_; intro h H) | (refine Hp.st H 5 rfl rfl rfl rfl rfl ?_; intro h H) | (intro b h N; replace H := Hp.new H N; clear N) | refine Drawn.mk (by kernel_rfl) ?_ | refine FillK.row rfl ?_ | refine FillK.lit rfl ?_ | refine WrapK.i64 (by omega) (by omega) ?_ | refine WrapK.u64 (by omega) (by omega) ?_ | refine WrapK.u32 (by omega) (by omega) ?_ | refine WrapK.u8 (by omega) (by omega) ?_ | refine iteT (by omega) ?_ | refine iteF (by omega) ?_ | refine iteET (by omega) ?_ | refine iteEF (by omega) ?_ | refine iteNT (by omega) ?_ | refine iteNF (by omega) ?_); conv => whnf)
    have hz := H.bytes 0 (L := [0]) (n := 1) (c := 1) rfl rfl rfl (Nat.le_refl _)
    refine Hp.appendB EW_ok H 1 rfl hz rfl rfl rfl (by simp; omega) ?_
    intro s4 h4 H
    replace H := H.drop 0
    have e1 : L ++ List.replicate j 0 ++ [0] = L ++ List.replicate (j + 1) (0 : UInt8) := by rw [List.replicate_succ', List.append_assoc]
    rw [e1] at H
    conv => whnf
    repeat ((first | refine cnd_intro (by first | (simp; done) | (simp; omega) | omega | (simp only [Bool.and_eq_true, decide_eq_true_eq]; omega)) ?_ | refine Hp.ld H 0 rfl rfl ?_ | refine Hp.ld H 1 rfl rfl ?_ | refine Hp.ld H 2 rfl rfl ?_ | refine Hp.ld H 3 rfl rfl ?_ | refine Hp.ld H 4 rfl rfl ?_ | refine Hp.ld H 5 rfl rfl ?_ | (refine Hp.st H 0 rfl rfl rfl rfl rfl ?_; intro h H) | (refine Hp.st H 1 rfl rfl rfl rfl rfl ?_; intro h H) | (refine Hp.st H 2 rfl rfl rfl rfl rfl ?_; intro h H) | (refine Hp.st H 3 rfl rfl rfl rfl rfl ?_; intro h H) | (refine Hp.st H 4 rfl rfl rfl rfl rfl ?_; intro h H) | (refine Hp.st H 5 rfl rfl rfl rfl rfl ?_; intro h H) | (intro b h N; replace H := Hp.new H N; clear N) | refine Drawn.mk (by kernel_rfl) ?_ | refine FillK.row rfl ?_ | refine FillK.lit rfl ?_ | refine WrapK.i64 (by omega) (by omega) ?_ | refine WrapK.u64 (by omega) (by omega) ?_ | refine WrapK.u32 (by omega) (by omega) ?_ | refine WrapK.u8 (by omega) (by omega) ?_ | refine iteT (by omega) ?_ | refine iteF (by omega) ?_ | refine iteET (by omega) ?_ | refine iteEF (by omega) ?_ | refine iteNT (by omega) ?_ | refine iteNF (by omega) ?_); conv => whnf)
    exact ⟨(j + 1, s4), ⟨rfl, trivial⟩, (by repeat (first | exact trivial | refine ⟨rfl, ?_⟩)), ⟨by show j + 1 ≤ 60 - L.length; omega, H⟩, by show 60 - L.length - (j + 1) < 60 - L.length - j; omega⟩
  · conv => whnf
    rw [hlen]
    conv => whnf
    repeat ((first | refine cnd_intro (by first | (simp; done) | (simp; omega) | omega | (simp only [Bool.and_eq_true, decide_eq_true_eq]; omega)) ?_ | refine Hp.ld H 0 rfl rfl ?_ | refine Hp.ld H 1 rfl rfl ?_ | refine Hp.ld H 2 rfl rfl ?_ | refine Hp.ld H 3 rfl rfl ?_ | refine Hp.ld H 4 rfl rfl ?_ | refine Hp.ld H 5 rfl rfl ?_ | (refine Hp.st H 0 rfl rfl rfl rfl rfl ?_; intro h H) | (refine Hp.st H 1 rfl rfl rfl rfl rfl ?_; intro h H) | (refine Hp.st H 2 rfl rfl rfl rfl rfl ?_; intro h H) | (refine Hp.st H 3 rfl rfl rfl rfl rfl ?_; intro h H) | (refine Hp.st H 4 rfl rfl rfl rfl rfl ?_; intro h H) | (refine Hp.st H 5 rfl rfl rfl rfl rfl ?_; intro h H) | (intro b h N; replace H := Hp.new H N; clear N) | refine Drawn.mk (by kernel_rfl) ?_ | refine FillK.row rfl ?_ | refine FillK.lit rfl ?_ | refine WrapK.i64 (by omega) (by omega) ?_ | refine WrapK.u64 (by omega) (by omega) ?_ | refine WrapK.u32 (by omega) (by omega) ?_ | refine WrapK.u8 (by omega) (by omega) ?_ | refine iteT (by omega) ?_ | refine iteF (by omega) ?_ | refine iteET (by omega) ?_ | refine iteEF (by omega) ?_ | refine iteNT (by omega) ?_ | refine iteNF (by omega) ?_); conv => whnf)
    have ej : j = 60 - L.length := by omega
    subst ej
    rw [hlen] at hb
    refine CallK.mono (seal_call _ _ (padL L) hb (by simp [padL]; omega)) ?_
    rintro s5 h5 ⟨o5, k5⟩
    replace H := (H.made o5 k5).drop 1
    conv => whnf
    repeat ((first | refine cnd_intro (by first | (simp; done) | (simp; omega) | omega | (simp only [Bool.and_eq_true, decide_eq_true_eq]; omega)) ?_ | refine Hp.ld H 0 rfl rfl ?_ | refine Hp.ld H 1 rfl rfl ?_ | refine Hp.ld H 2 rfl rfl ?_ | refine Hp.ld H 3 rfl rfl ?_ | refine Hp.ld H 4 rfl rfl ?_ | refine Hp.ld H 5 rfl rfl ?_ | (refine Hp.st H 0 rfl rfl rfl rfl rfl ?_; intro h H) | (refine Hp.st H 1 rfl rfl rfl rfl rfl ?_; intro h H) | (refine Hp.st H 2 rfl rfl rfl rfl rfl ?_; intro h H) | (refine Hp.st H 3 rfl rfl rfl rfl rfl ?_; intro h H) | (refine Hp.st H 4 rfl rfl rfl rfl rfl ?_; intro h H) | (refine Hp.st H 5 rfl rfl rfl rfl rfl ?_; intro h H) | (intro b h N; replace H := Hp.new H N; clear N) | refine Drawn.mk (by kernel_rfl) ?_ | refine FillK.row rfl ?_ | refine FillK.lit rfl ?_ | refine WrapK.i64 (by omega) (by omega) ?_ | refine WrapK.u64 (by omega) (by omega) ?_ | refine WrapK.u32 (by omega) (by omega) ?_ | refine WrapK.u8 (by omega) (by omega) ?_ | refine iteT (by omega) ?_ | refine iteF (by omega) ?_ | refine iteET (by omega) ?_ | refine iteEF (by omega) ?_ | refine iteNT (by omega) ?_ | refine iteNF (by omega) ?_); conv => whnf)
    exact H

end Go.Proofs.Ytcjilkemfmhkgaa
