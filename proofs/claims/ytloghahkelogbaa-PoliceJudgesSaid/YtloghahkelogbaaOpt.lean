import Derived.Test.YtloghahkelogbaaMaps
import Derived.Test.YtloghahkelogbaaPair
namespace Go.Vc

/-! ### resources that may be there; rows of zeros -/

def Res.emp : Res := ⟨fun _ => False, fun _ => True, fun _ _ e => e.elim, fun _ _ => trivial⟩

def Res.opt (c : Bool) (r : Res) : Res := match c with
  | true => r
  | false => Res.emp

theorem setN_emp {r : Res} : ∀ {rs : List Res} {i : Nat}, nth rs i = some Res.emp → (setN rs i r ++ [Res.emp]).Perm (r :: rs)
  | [], _, h => by simp [nth] at h
  | x :: rs, 0, h => by
    simp only [nth, Option.some.injEq] at h
    subst h
    exact (List.perm_append_comm (l₁ := rs) (l₂ := [Res.emp])).cons r
  | x :: rs, i + 1, h => by
    simp only [nth] at h
    exact ((setN_emp h).cons x).trans (List.Perm.swap r x rs)

/-- A place that is empty is filled. -/
theorem Hp.fill {h0 h : Heap} {rs : List Res} {r : Res} (H : Hp h0 h (r :: rs)) (i : Nat) (hn : nth rs i = some Res.emp) : Hp h0 h (setN rs i r) :=
  H.sub ⟨[Res.emp], setN_emp hn⟩

theorem Hp.emp {h0 h : Heap} {rs : List Res} (H : Hp h0 h rs) : Hp h0 h (Res.emp :: rs) := H.more (Keep.refl _ _) trivial fun _ hk => hk.elim

/-- What a call has laid comes to what there was. -/
theorem Hp.join {h0 h h' : Heap} {rs ss : List Res} (H : Hp h0 h rs) (H1 : Hp h h' ss) : Hp h0 h' (ss ++ rs) := by
  have H2 := H.and H1.keep
  refine ⟨H2.keep, fun r hr => ?_, List.pairwise_append.2 ⟨H1.apart, H.apart, fun p hp q hq k hk hqk => ?_⟩⟩
  · rcases List.mem_append.1 hr with hr | hr
    · obtain ⟨h1, h2⟩ := H1.each r hr
      exact ⟨h1, fun k hk => by have := h2 k hk; have := H.keep.size; omega⟩
    · exact H2.each r hr
  · have := (H1.each p hp).2 k hk
    have := q.lt (H.each q hq).1 hqk
    omega

/-- A kind of value that tells a block. -/
structure MkV where
  f : Nat → Value
  inj : ∀ b c, f b = f c → b = c

/-- A resource of which the block is told by a value. -/
def Res.via (M : MkV) (v : Value) (r : Nat → Res) : Res := ⟨fun k => ∃ b, v = M.f b ∧ (r b).blk k, fun h => ∃ b, v = M.f b ∧ (r b).at_ h,
  fun x k e => by
    obtain ⟨b, hb, hx⟩ := x
    obtain ⟨c, hc, hk⟩ := e
    have := M.inj b c (hb.symm.trans hc)
    subst this
    exact (r b).lt hx hk,
  fun x k => by
    obtain ⟨b, hb, hx⟩ := x
    exact ⟨b, hb, (r b).keep hx fun j hj => k j ⟨b, hb, hj⟩⟩⟩

theorem Hp.via_out {h0 h : Heap} {rs : List Res} {M : MkV} {v : Value} {r : Nat → Res} (H : Hp h0 h rs) (i : Nat) (hn : nth rs i = some (Res.via M v r)) : ∃ b, v = M.f b ∧ Hp h0 h (setN rs i (r b)) := by
  obtain ⟨b, hb, hx⟩ := H.get i hn
  exact ⟨b, hb, H.change i hn (Keep.refl _ _) hx fun k hk => .inl ⟨b, hb, hk⟩⟩

theorem Hp.via_in {h0 h : Heap} {rs : List Res} (M : MkV) {v : Value} (r : Nat → Res) {b : Nat} (H : Hp h0 h rs) (i : Nat) (hn : nth rs i = some (r b)) (hv : v = M.f b) : Hp h0 h (setN rs i (Res.via M v r)) := by
  refine H.change i hn (Keep.refl _ _) ⟨b, hv, H.get i hn⟩ fun k hk => .inl ?_
  obtain ⟨c, hc, hk⟩ := hk
  have := M.inj b c (hv.symm.trans hc)
  subst this
  exact hk

def ptrM : MkV := ⟨fun b => .pointer (some ⟨b, 0, none⟩), fun b c h => by injection h with h; injection h with h; injection h⟩
def mapM : MkV := ⟨fun b => .map (some b), fun b c h => by injection h with h; injection h with h⟩
def rowM (n : Nat) : MkV := ⟨fun b => .slice (some ⟨b, 0, none⟩) n n, fun b c h => by injection h with h; injection h with h; injection h⟩

end Go.Vc
