import Derived.Test.YtcjilkemfmhkgaaVlan3
namespace Go.Proofs.Ytcjilkemfmhkgaa
open Go.Vc
set_option maxRecDepth 10000
set_option maxHeartbeats 4000000

/-! ### vlan: a VLAN is set -/

theorem wrap_toInt (x : BitVec 64) : IntKind.i64.wrap (x.toNat : Int) = x.toInt := by
  have h := x.isLt
  rw [wrap64_def, BitVec.toInt_eq_toNat_cond]
  split <;> split <;> omega

theorem ofInt_toInt {a : Int} (h1 : -9223372036854775808 ≤ a) (h2 : a ≤ 9223372036854775807) : (BitVec.ofInt 64 a).toInt = a := by
  rw [BitVec.toInt_ofInt, Int.bmod_def]
  split <;> omega

theorem andNot_zero (A B : BitVec 64) : A &&& ~~~B = 0 ↔ A &&& B = A := by
  constructor
  · intro h
    apply BitVec.eq_of_getLsbD_eq
    intro i hi
    have := congrArg (fun x => BitVec.getLsbD x i) h
    simp only [BitVec.getLsbD_and, BitVec.getLsbD_not, BitVec.getLsbD_zero, decide_eq_true hi, Bool.true_and] at this
    rw [BitVec.getLsbD_and]
    revert this
    cases A.getLsbD i <;> cases B.getLsbD i <;> simp
  · intro h
    apply BitVec.eq_of_getLsbD_eq
    intro i hi
    have := congrArg (fun x => BitVec.getLsbD x i) h
    simp only [BitVec.getLsbD_and] at this
    simp only [BitVec.getLsbD_and, BitVec.getLsbD_not, BitVec.getLsbD_zero, decide_eq_true hi, Bool.true_and]
    revert this
    cases A.getLsbD i <;> cases B.getLsbD i <;> simp

theorem bAndNot_zero {p m : Int} (h1 : -9223372036854775808 ≤ p) (h2 : p ≤ 9223372036854775807) (h3 : 0 ≤ m) (h4 : m < 65536) : bAndNot .i64 p m = 0 ↔ 0 ≤ p ∧ bAnd .i64 p m = p := by
  show IntKind.i64.wrap ((BitVec.ofInt 64 p &&& ~~~ BitVec.ofInt 64 m).toNat : Int) = 0 ↔ 0 ≤ p ∧ IntKind.i64.wrap ((BitVec.ofInt 64 p &&& BitVec.ofInt 64 m).toNat : Int) = p
  rw [wrap_toInt, wrap_toInt]
  have hp := ofInt_toInt h1 h2
  have hm : (BitVec.ofInt 64 m).toNat = m.toNat := by
    rw [BitVec.toNat_ofInt]
    omega
  generalize BitVec.ofInt 64 p = A at *
  generalize BitVec.ofInt 64 m = B at *
  have e0 : (A &&& ~~~B).toInt = 0 ↔ A &&& ~~~B = 0 := by
    constructor
    · intro h
      apply BitVec.eq_of_toInt_eq
      rw [h]
      rfl
    · intro h
      rw [h]
      rfl
  rw [e0, andNot_zero]
  constructor
  · intro h
    refine ⟨?_, by rw [h, hp]⟩
    rw [← hp, ← h, BitVec.toInt_eq_toNat_cond]
    have : (A &&& B).toNat ≤ B.toNat := by rw [BitVec.toNat_and]; exact Nat.and_le_right
    rw [if_pos (by omega)]
    omega
  · rintro ⟨_, h⟩
    apply BitVec.eq_of_toInt_eq
    rw [h, hp]

theorem bAndNot_low {a : Int} {k : Nat} (h1 : -9223372036854775808 ≤ a) (h2 : a ≤ 9223372036854775807) (hk : k ≤ 16) : bAndNot .i64 a (((2 ^ k : Nat) : Int) - 1) = 0 ↔ 0 ≤ a ∧ a < ((2 ^ k : Nat) : Int) := by
  have hp := pow_le hk
  have hp1 : 1 ≤ 2 ^ k := Nat.one_le_two_pow
  rw [bAndNot_zero h1 h2 (by omega) (by omega)]
  constructor
  · rintro ⟨h0, h⟩
    refine ⟨h0, ?_⟩
    obtain ⟨n, rfl⟩ : ∃ n : Nat, a = n := ⟨a.toNat, by omega⟩
    rw [show ((2 ^ k : Nat) : Int) - 1 = ((2 ^ k - 1 : Nat) : Int) by omega, bAnd_i64 (by omega) (by omega), and_mask] at h
    have := Nat.mod_lt n (show 0 < 2 ^ k by omega)
    omega
  · rintro ⟨h0, h⟩
    refine ⟨h0, ?_⟩
    obtain ⟨n, rfl⟩ : ∃ n : Nat, a = n := ⟨a.toNat, by omega⟩
    rw [show ((2 ^ k : Nat) : Int) - 1 = ((2 ^ k - 1 : Nat) : Int) by omega, bAnd_i64 (by omega) (by omega), and_mask, Nat.mod_eq_of_lt (by omega)]

/-- May a VLAN be so? -/
def okSet (k : Nat) (v m p : Int) : Prop := 1 ≤ v ∧ v ≤ 4094 ∧ (0 ≤ m ∧ m < ((2 ^ k : Nat) : Int)) ∧ (0 ≤ p ∧ bAnd .i64 p m = p)

instance (k : Nat) (v m p : Int) : Decidable (okSet k v m p) := by unfold okSet; infer_instance

def vdel (v : Int) (T : List VRow) : List VRow := T.filter fun x => decide (¬ x.vid = v)

def vput (v m p : Int) : List VRow → List VRow
  | [] => [⟨v, m, p⟩]
  | x :: r => if v = x.vid then ⟨v, m, p⟩ :: r else x :: vput v m p r

def setF (k : Nat) (v m p : Int) (T : List VRow) : Nat × List VRow :=
  if okSet k v m p then
    if m = 0 then (0, vdel v T)
    else if T.any (VRow.isV v) = true then (0, vput v m p T)
    else if T.length = 64 then (20, T) else (0, T ++ [⟨v, m, p⟩])
  else (1, T)

/-- No VLAN twice; sets of ports all. -/
structure GoodT (T : List VRow) : Prop where
  len : T.length ≤ 64
  small : SmallT T
  apart : T.Pairwise fun x y => x.vid ≠ y.vid

theorem vdel_at {v : Int} : ∀ {T : List VRow} {i : Nat} {x : VRow}, T.Pairwise (fun x y => x.vid ≠ y.vid) → T[i]? = some x → x.vid = v → vdel v T = T.eraseIdx i
  | [], _, _, _, h, _ => by simp at h
  | y :: r, 0, x, hp, h, hv => by
    simp only [List.getElem?_cons_zero, Option.some.injEq] at h
    subst h
    rw [List.pairwise_cons] at hp
    unfold vdel
    rw [List.filter_cons, decide_eq_false (by simp [hv])]
    simp only [Bool.false_eq_true, if_false, List.eraseIdx_cons_zero]
    rw [List.filter_eq_self]
    intro z hz
    exact decide_eq_true fun e => hp.1 z hz (hv.trans e.symm)
  | y :: r, i + 1, x, hp, h, hv => by
    simp only [List.getElem?_cons_succ] at h
    rw [List.pairwise_cons] at hp
    unfold vdel
    rw [List.filter_cons, decide_eq_true (by
      intro e
      exact hp.1 x (List.mem_of_getElem? h) (e.trans hv.symm))]
    simp only [if_true, List.eraseIdx_cons_succ]
    congr 1
    exact vdel_at hp.2 h hv

theorem vdel_none {v : Int} {T : List VRow} (h : T.any (VRow.isV v) = false) : vdel v T = T := by
  unfold vdel
  rw [List.filter_eq_self]
  intro x hx
  rw [List.any_eq_false] at h
  exact decide_eq_true fun e => h x hx (decide_eq_true e)

theorem vput_at {v m p : Int} : ∀ {T : List VRow} {i : Nat} {x : VRow}, T[i]? = some x → VRow.isV v x = true → (T.take i).any (VRow.isV v) = false → vput v m p T = T.set i ⟨x.vid, m, p⟩
  | [], _, _, h, _, _ => by simp at h
  | y :: r, 0, x, h, hv, _ => by
    simp only [List.getElem?_cons_zero, Option.some.injEq] at h
    subst h
    have e : y.vid = v := of_decide_eq_true hv
    simp only [vput, List.set_cons_zero]
    rw [if_pos e.symm, e]
  | y :: r, i + 1, x, h, hv, ha => by
    simp only [List.getElem?_cons_succ] at h
    simp only [List.take_succ_cons, List.any_cons, Bool.or_eq_false_iff] at ha
    simp only [vput, List.set_cons_succ]
    rw [if_neg (fun e => by
      have := of_decide_eq_false ha.1
      exact this e.symm)]
    congr 1
    exact vput_at h hv ha.2

theorem vput_none {v m p : Int} : ∀ {T : List VRow}, T.any (VRow.isV v) = false → vput v m p T = T ++ [⟨v, m, p⟩]
  | [], _ => rfl
  | y :: r, h => by
    simp only [List.any_cons, Bool.or_eq_false_iff] at h
    simp only [vput, List.cons_append]
    rw [if_neg (fun e => of_decide_eq_false h.1 e.symm)]
    congr 1
    exact vput_none h.2

/-- An element goes out of a slice of one's own: append(s[:i], s[i+1:]...). -/
theorem cut_out {E : Env} (hE : E.Ok) {α : Type} {f : α → List Value} (hf : ∀ y, (f y).length = 1) (h1f : ∀ y, (f y).all oneCell = true) {t tx e ty : Nat} {y z x0 : Ty} {h0 h : Heap} {rs : List Res} {K : Value → Heap → Prop} {xs : List α} {n c j : Nat} {A : Option Addr} {s v1 v2 : Value} (H : Hp h0 h rs) (i : Nat)
    (hn : nth rs i = some (Res.own s e 1 n (xs.flatMap f))) (hs : s = .slice A n c) (hnx : n = xs.length) (hj : j < xs.length)
    (h1' : v1 = .slice (cutA A 0 c 1) j c) (h2' : v2 = .slice (cutA A (j + 1) c 1) (n - (j + 1)) (c - (j + 1)))
    (hy : E.ty t = some y) (hd : y.desc = .slice e) (hz : E.ty e = some z) (hz1 : z.size = 1) (hx0 : E.ty tx = some x0) (hdx : ∀ k, x0.desc ≠ .int k)
    (k : ∀ v' h', Hp h0 h' (setN rs i (Res.own v' e 1 (n - 1) ((xs.eraseIdx j).flatMap f))) → K v' h') :
    SemK E.P (Builtin.append_ #[t, tx] ty #[v1, v2]) h K := by
  subst hnx
  have hpk := H.pick i hn
  obtain ⟨b, cap, r, hse, hcap, hlen, H⟩ := hpk.opened 0 rfl (by omega) (by decide)
  rw [hs] at hse
  injection hse with hA _ hc
  subst hA hc
  obtain ⟨x, hx⟩ := list_at hj
  have hcut := flat_cut (f := f) hx
  have hlA : ((xs.take j).flatMap f).length = j := by rw [flat_length hf, List.length_take, Nat.min_eq_left (by omega), Nat.mul_one]
  have hlD : ((xs.drop (j + 1)).flatMap f).length = xs.length - (j + 1) := by rw [flat_length hf, List.length_drop, Nat.mul_one]
  have h1D : ((xs.drop (j + 1)).flatMap f).all oneCell = true := flat_one h1f _
  have herase : (xs.eraseIdx j).flatMap f = (xs.take j).flatMap f ++ (xs.drop (j + 1)).flatMap f := by rw [List.eraseIdx_eq_take_drop_succ, List.flatMap_append]
  rw [herase] at k
  rw [hcut] at H hlen
  generalize (xs.take j).flatMap f = A at *
  generalize (xs.drop (j + 1)).flatMap f = D at *
  have hfx := hf x
  have hlx : (f x ++ D).length = D.length + 1 := by rw [List.length_append, hfx]; omega
  have hR : Row h (cutA (some ⟨b, 0, none⟩) (j + 1) c 1) D := by
    refine row_cut (H.get 0 rfl) (a := A ++ f x) (ys := D) (r := r) (by simp) (by rw [List.length_append, hfx]; omega) fun e => ?_
    apply List.eq_nil_of_length_eq_zero
    omega
  refine Hp.appendIn' hE H 0 (n := j) (cap := c) (m := xs.length - (j + 1)) (B := cutA (some ⟨b, 0, none⟩) (j + 1) c 1) (c := c - (j + 1)) (a := A) (q := (f x ++ D).take D.length) (r := (f x ++ D).drop D.length ++ r) (z := z) rfl ?_ h2' ?_ hy hd hz hx0 hdx hR (by rw [hz1, hlD]; omega) (fun e => ?_) (by omega) (by rw [hz1, hlA]; omega) ?_ h1D ?_
  · rw [h1', cutA_some]
    congr 1
    simp
  · conv => lhs; rw [← List.take_append_drop D.length (f x ++ D)]
    simp only [List.append_assoc]
  · rw [cutA_some] at e
    cases e
  · rw [List.length_take, hlx]; omega
  clear H
  intro h2 H
  have H := H.slice 0 (b := b) (e := e) (size := 1) (n := j + (xs.length - (j + 1))) (c := c) (xs := A ++ D) rfl ?_ ?_ ?_
  · rw [show j + (xs.length - (j + 1)) = xs.length - 1 by omega] at H ⊢
    exact k _ _ (H.unpick hn)
  · rw [List.length_append, hlA, hlD]; omega
  · exact List.take_left
  · simp only [List.length_append, List.length_drop] at hlen ⊢
    omega

end Go.Proofs.Ytcjilkemfmhkgaa
