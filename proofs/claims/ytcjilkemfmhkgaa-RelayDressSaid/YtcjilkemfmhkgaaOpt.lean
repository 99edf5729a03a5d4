import Derived.Test.YtcjilkemfmhkgaaMaps
import Derived.Test.YtcjilkemfmhkgaaPair
namespace Go.Vc

/-! ### resources that may be there; rows of zeros -/

def Res.emp : Res := ⟨fun _ => False, fun _ => True, fun _ _ e => e.elim, fun _ _ => trivial⟩

def Res.opt (c : Bool) (r : Res) : Res := match c with
  | true => r
  | false => Res.emp

theorem setN_emp {r : Res} : ∀ {rs : List Res} {i : Nat}, nth rs i = some Res.emp → (setN rs i r ++ [Res.emp]).Perm (r :: rs)
  | [], _, h => by simp [nth] at h
  | x :: rs, 0, h => by
    simp only [nth, Option.some.injEq] at h
    subst h
    exact (List.perm_append_comm (l₁ := rs) (l₂ := [Res.emp])).cons r
  | x :: rs, i + 1, h => by
    simp only [nth] at h
    exact ((setN_emp h).cons x).trans (List.Perm.swap r x rs)

/-- A place that is empty is filled. -/
theorem Hp.fill {h0 h : Heap} {rs : List Res} {r : Res} (H : Hp h0 h (r :: rs)) (i : Nat) (hn : nth rs i = some Res.emp) : Hp h0 h (setN rs i r) :=
  H.sub ⟨[Res.emp], setN_emp hn⟩

/-- A resource is there no more. -/
theorem Hp.void {h0 h : Heap} {rs : List Res} {r : Res} (H : Hp h0 h rs) (i : Nat) (hn : nth rs i = some r) : Hp h0 h (setN rs i Res.emp) :=
  H.change i hn (Keep.refl _ _) trivial fun _ hk => hk.elim

theorem Hp.emp {h0 h : Heap} {rs : List Res} (H : Hp h0 h rs) : Hp h0 h (Res.emp :: rs) := H.more (Keep.refl _ _) trivial fun _ hk => hk.elim

theorem range_rows {l : List Value} {s : Nat} (hs : l.length = s) (h0 : 0 < s) : ∀ c : Nat, (List.range (c * s)).map (fun j => l.toArray[j % l.toArray.size]!) = (List.replicate c ()).flatMap fun _ => l
  | 0 => by simp
  | c + 1 => by
    rw [Nat.add_mul, Nat.one_mul, List.range_add, List.map_append, range_rows hs h0 c, List.replicate_succ', List.flatMap_append]
    congr 1
    rw [List.map_map]
    simp only [List.flatMap_cons, List.flatMap_nil, List.append_nil]
    apply List.ext_getElem
    · simp [hs]
    · intro i h1 h2
      have hi : i < s := by simpa using h1
      simp only [List.getElem_map, List.getElem_range, Function.comp]
      have e : (c * s + i) % l.toArray.size = i := by
        rw [List.size_toArray, hs, Nat.add_comm, Nat.add_mul_mod_self_right, Nat.mod_eq_of_lt hi]
      rw [e]
      rw [getElem!_pos l.toArray i (by simpa using h2)]
      simp

theorem SemK.makeN {E : Env} (hE : E.Ok) {t e : Nat} {y z : Ty} {zl : List Value} {k1 k2 : IntKind} {l c : Int} {n : Nat} {h : Heap} {K : Value → Heap → Prop} (hy : E.ty t = some y) (hd : y.desc = .slice e) (hz : E.ty e = some z) (hzv : z.zero = some (.agg zl.toArray))
    (hs : z.size = zl.length) (hp : 0 < zl.length) (hl : l = (n : Nat)) (hc : c = (n : Nat)) (hn : n ≤ 1000000) (hb : z.bytes ≤ 1000)
    (k : ∀ b h', New h (.cells ((List.replicate n ()).flatMap fun _ => zl).toArray e (0, 0)) b h' → K (.slice (some ⟨b, 0, none⟩) n n) h') : SemK E.P (Instr.makeSlice t (.int k1 l) (.int k2 c)) h K := by
  subst hl hc
  refine ⟨fun w hw => ?_⟩
  subst hw
  have h1 := fun w' => hE.underlying hy w'
  rw [hd] at h1
  obtain ⟨i, hi, his, hib, hi0⟩ := (hE.ty e z hz).info
  have hti : ∀ w', (typeInfo e).run E.P w' = .ok i w' := fun w' => by simp [typeInfo, hi]
  have wl : IntKind.i64.wrap (n : Int) = n := wrap64_id (by omega) (by omega)
  have hprod : (i.bytes : Int) * (n : Int) ≤ 1000 * 1000000 := Int.mul_le_mul (by omega) (by omega) (by omega) (by omega)
  have hno : ¬ (decide ((n : Int) < 0) || decide ((i.bytes : Int) * (n : Int) > 2 ^ 48) || decide ((n : Int) < 0) || decide ((n : Int) > (n : Int))) = true := by
    simp only [Bool.or_eq_true, decide_eq_true_eq]
    omega
  have hrun : (Instr.makeSlice t (.int k1 (n : Int)) (.int k2 (n : Int))).run E.P w = .ok (.slice (some ⟨w.heap.size, 0, none⟩) n n) { w with heap := w.heap.push (.cells ((List.replicate n ()).flatMap fun _ => zl).toArray e (0, 0)) } := by
    unfold Instr.makeSlice
    have ha : ∀ (k : IntKind) (n : Int) w', (asInt (.int k n)).run E.P w' = .ok n w' := fun _ _ _ => rfl
    simp only [Sem.run_bind, h1, Result.andThen_ok, hti, ha, wl]
    rw [if_neg hno]
    simp only [Sem.run_bind, run_askRoom, Result.andThen_ok, hE.sizeOf hz, hs, Int.toNat_natCast]
    by_cases h0' : n * zl.length = 0
    · rw [if_pos h0']
      have hn0 : n = 0 := by
        rcases Nat.mul_eq_zero.1 h0' with h | h
        · exact h
        · omega
      subst hn0
      simp only [Sem.run_bind, Sem.run_pure, Result.andThen_ok, newRow, run_newObj, h0']
      have hrep : (Array.range 0).map (fun j => (#[] : Array Value)[j % (#[] : Array Value).size]!) = ((List.replicate 0 ()).flatMap fun _ => zl).toArray := by apply Array.ext' ; simp [Array.toList_range]
      rw [hrep]
    · rw [if_neg h0']
      have hrep : (Array.range (n * zl.length)).map (fun j => (Value.agg zl.toArray).cells[j % (Value.agg zl.toArray).cells.size]!) = ((List.replicate n ()).flatMap fun _ => zl).toArray := by
        apply Array.ext'
        rw [Array.toList_map, Array.toList_range]
        exact range_rows rfl hp n
      simp only [Sem.run_bind, Sem.run_pure, Result.andThen_ok, newRow, run_newObj, hE.zeroValue hz hzv, hrep]
  exact ⟨_, _, hrun, ⟨rfl, rfl, rfl⟩, k _ _ (New.push _ _)⟩

theorem flat_unit {α β : Type} {f : α → List β} {x : α} : ∀ n : Nat, ((List.replicate n ()).flatMap fun _ => f x) = (List.replicate n x).flatMap f
  | 0 => rfl
  | n + 1 => by rw [List.replicate_succ, List.replicate_succ, List.flatMap_cons, List.flatMap_cons, flat_unit n]

/-- A row of zeros of a type of several cells, as a slice of one's own. -/
theorem Hp.makeN {E : Env} (hE : E.Ok) {α : Type} {f : α → List Value} (x : α) {t e : Nat} {y z : Ty} {k1 k2 : IntKind} {l c : Int} {n : Nat} {h0 h : Heap} {rs : List Res} {K : Value → Heap → Prop} (H : Hp h0 h rs) (hy : E.ty t = some y) (hd : y.desc = .slice e) (hz : E.ty e = some z) (hzv : z.zero = some (.agg (f x).toArray))
    (hs : z.size = (f x).length) (hp : 0 < (f x).length) (hl : l = (n : Nat)) (hc : c = (n : Nat)) (hn : n ≤ 1000000) (hb : Nat.ble z.bytes 1000 = true)
    (k : ∀ b h', Hp h0 h' (Res.ob b (.cells ((List.replicate n x).flatMap f).toArray e (0, 0)) :: rs) → K (.slice (some ⟨b, 0, none⟩) n n) h') : SemK E.P (Instr.makeSlice t (.int k1 l) (.int k2 c)) h K := by
  refine SemK.makeN hE hy hd hz hzv hs hp hl hc hn (Nat.le_of_ble_eq_true hb) fun b h' N => ?_
  rw [flat_unit] at N
  exact k b h' (H.new N)

/-- Two that are one, somewhere in the row. -/
theorem Hp.unpairAt {h0 h : Heap} {A rs : List Res} {p q : Res} (H : Hp h0 h (A ++ Res.pair p q :: rs)) : Hp h0 h (A ++ p :: q :: rs) := by
  have H1 : Hp h0 h (Res.pair p q :: (A ++ rs)) := H.sub ⟨[], by rw [List.append_nil]; exact List.perm_middle.symm⟩
  exact H1.unpair.sub ⟨[], by
    rw [List.append_nil]
    exact List.perm_middle.trans (List.perm_middle.cons p)⟩

theorem Hp.pairAt {h0 h : Heap} {A rs : List Res} {p q : Res} (H : Hp h0 h (A ++ p :: q :: rs)) : Hp h0 h (A ++ Res.pair p q :: rs) := by
  have H1 : Hp h0 h (p :: q :: (A ++ rs)) := H.sub ⟨[], by
    rw [List.append_nil]
    exact (List.perm_middle.trans (List.perm_middle.cons p)).symm⟩
  exact H1.pair.sub ⟨[], by rw [List.append_nil]; exact List.perm_middle⟩

/-- What a call has laid comes to what there was. -/
theorem Hp.join {h0 h h' : Heap} {rs ss : List Res} (H : Hp h0 h rs) (H1 : Hp h h' ss) : Hp h0 h' (ss ++ rs) := by
  have H2 := H.and H1.keep
  refine ⟨H2.keep, fun r hr => ?_, List.pairwise_append.2 ⟨H1.apart, H.apart, fun p hp q hq k hk hqk => ?_⟩⟩
  · rcases List.mem_append.1 hr with hr | hr
    · obtain ⟨h1, h2⟩ := H1.each r hr
      exact ⟨h1, fun k hk => by have := h2 k hk; have := H.keep.size; omega⟩
    · exact H2.each r hr
  · have := (H1.each p hp).2 k hk
    have := q.lt (H.each q hq).1 hqk
    omega

/-- A kind of value that tells a block. -/
structure MkV where
  f : Nat → Value
  inj : ∀ b c, f b = f c → b = c

/-- A resource of which the block is told by a value. -/
def Res.via (M : MkV) (v : Value) (r : Nat → Res) : Res := ⟨fun k => ∃ b, v = M.f b ∧ (r b).blk k, fun h => ∃ b, v = M.f b ∧ (r b).at_ h,
  fun x k e => by
    obtain ⟨b, hb, hx⟩ := x
    obtain ⟨c, hc, hk⟩ := e
    have := M.inj b c (hb.symm.trans hc)
    subst this
    exact (r b).lt hx hk,
  fun x k => by
    obtain ⟨b, hb, hx⟩ := x
    exact ⟨b, hb, (r b).keep hx fun j hj => k j ⟨b, hb, hj⟩⟩⟩

theorem Hp.via_out {h0 h : Heap} {rs : List Res} {M : MkV} {v : Value} {r : Nat → Res} (H : Hp h0 h rs) (i : Nat) (hn : nth rs i = some (Res.via M v r)) : ∃ b, v = M.f b ∧ Hp h0 h (setN rs i (r b)) := by
  obtain ⟨b, hb, hx⟩ := H.get i hn
  exact ⟨b, hb, H.change i hn (Keep.refl _ _) hx fun k hk => .inl ⟨b, hb, hk⟩⟩

theorem Hp.via_in {h0 h : Heap} {rs : List Res} (M : MkV) {v : Value} (r : Nat → Res) {b : Nat} (H : Hp h0 h rs) (i : Nat) (hn : nth rs i = some (r b)) (hv : v = M.f b) : Hp h0 h (setN rs i (Res.via M v r)) := by
  refine H.change i hn (Keep.refl _ _) ⟨b, hv, H.get i hn⟩ fun k hk => .inl ?_
  obtain ⟨c, hc, hk⟩ := hk
  have := M.inj b c (hv.symm.trans hc)
  subst this
  exact hk

def ptrM : MkV := ⟨fun b => .pointer (some ⟨b, 0, none⟩), fun b c h => by injection h with h; injection h with h; injection h⟩
def mapM : MkV := ⟨fun b => .map (some b), fun b c h => by injection h with h; injection h with h⟩
def rowM (n : Nat) : MkV := ⟨fun b => .slice (some ⟨b, 0, none⟩) n n, fun b c h => by injection h with h; injection h with h; injection h⟩

end Go.Vc
