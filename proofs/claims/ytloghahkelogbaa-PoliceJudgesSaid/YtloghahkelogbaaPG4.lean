import Derived.Test.YtloghahkelogbaaPG3
namespace Go.Proofs.Ytloghahkelogbaa
open Go.Vc
set_option maxRecDepth 10000
set_option maxHeartbeats 8000000

/-! ### police: what is known of gates, meters and rules (plain) -/

def goodB (w : Wd) (n : Nat) : Bool := decide ((w.gl n).check = 0) && (decide ((w.gc n).length = (w.gl n).es.length) && !(w.gc n).any cbad)
def cfB (w : Wd) (n : Nat) : Bool := decide (CfgOk (w.cf n).a (w.cf n).b (w.cf n).c (w.cf n).d)

theorem goodB_true {w : Wd} {n : Nat} : goodB w n = true ↔ (w.gl n).check = 0 ∧ (w.gc n).length = (w.gl n).es.length ∧ (w.gc n).any cbad = false := by
  simp only [goodB, Bool.and_eq_true, decide_eq_true_eq, Bool.not_eq_true']

theorem lk_mput {κ α : Type} [DecidableEq κ] {k n : κ} {a : α} : ∀ {L : List (κ × α)}, lk (mput n a L) k = if k = n then some a else lk L k
  | [] => rfl
  | x :: r => by
    simp only [mput, lk]
    by_cases c : n = x.1
    · rw [if_pos c]
      simp only [lk]
      by_cases d : k = n
      · rw [if_pos d, if_pos d]
      · rw [if_neg d, if_neg d, if_neg (by rw [← c]; exact d)]
    · rw [if_neg c]
      simp only [lk]
      by_cases d : k = x.1
      · rw [if_pos d, if_neg (by rw [d]; exact fun e => c e.symm), if_pos d]
      · rw [if_neg d, lk_mput, if_neg d]

/-- The gates that are set so far. -/
structure GS (w : Wd) (i : Nat) (V : VM) (B : List Vlv) : Prop where
  gv : GoodV V
  yes : ∀ n : Nat, n < i → goodB w n = true → ∃ v, lk V (n : Int) = some v ∧ v ∈ B ∧ v.l = w.gl n ∧ v.cs = w.gc n
  no : ∀ k : Int, (∀ n : Nat, k = n → n < i → goodB w n = false) → lk V k = none

theorem GS.start (w : Wd) : GS w 0 [] [] := ⟨fun x hx => (by cases hx), fun n hn => (by omega), fun k _ => rfl⟩

theorem mput_in {κ α : Type} [DecidableEq κ] {n : κ} {a : α} : ∀ {L : List (κ × α)} {x : κ × α}, x ∈ mput n a L → x = (n, a) ∨ x ∈ L
  | [], x, h => by simp [mput] at h; exact .inl h
  | y :: r, x, h => by
    simp only [mput] at h
    split at h
    · rcases List.mem_cons.1 h with h | h
      · exact .inl h
      · exact .inr (List.mem_cons_of_mem _ h)
    · rcases List.mem_cons.1 h with h | h
      · exact .inr (by rw [h]; simp)
      · rcases mput_in h with h | h
        · exact .inl h
        · exact .inr (List.mem_cons_of_mem _ h)

theorem GS.good {w : Wd} {i e : Nat} {V V' : VM} {B B' : List Vlv} (x : GS w i V B) (hi : i < 3) (h : SetG (w.gl i) (w.gc i) i V B e V' B') (hg : goodB w i = true) : e = 0 ∧ GS w (i + 1) V' B' := by
  obtain ⟨g1, g2, g3⟩ := goodB_true.1 hg
  rcases h with ⟨c, _⟩ | ⟨_, _, c, _⟩ | ⟨_, _, _, c, _⟩ | ⟨_, _, _, _, _, rfl, v, hl, hc, hs, rfl, rfl⟩
  · omega
  · exact absurd g1 c
  · rcases c with c | c
    · exact absurd g2 c
    · rw [g3] at c; cases c
  refine ⟨rfl, fun y hy => ?_, fun n hn hgn => ?_, fun k hk => ?_⟩
  · rcases mput_in hy with rfl | hy
    · exact hs
    · exact x.gv y hy
  · rw [lk_mput]
    by_cases c : n = i
    · subst c
      rw [if_pos rfl]
      exact ⟨v, rfl, by simp, hl, hc⟩
    · rw [if_neg (by omega)]
      obtain ⟨v', h1, h2, h3⟩ := x.yes n (by omega) hgn
      exact ⟨v', h1, List.mem_cons_of_mem _ h2, h3⟩
  · rw [lk_mput, if_neg (fun e => by have := hk i e (by omega); rw [hg] at this; cases this)]
    exact x.no k fun n e hn => hk n e (by omega)

theorem GS.bad {w : Wd} {i e : Nat} {V V' : VM} {B B' : List Vlv} (x : GS w i V B) (hi : i < 3) (h : SetG (w.gl i) (w.gc i) i V B e V' B') (hg : goodB w i = false) : e = 30 ∧ V' = V ∧ B' = B ∧ GS w (i + 1) V' B' := by
  have hn : ¬ ((w.gl i).check = 0 ∧ (w.gc i).length = (w.gl i).es.length ∧ (w.gc i).any cbad = false) := fun c => by
    rw [goodB_true.2 c] at hg; cases hg
  have hx : GS w (i + 1) V B := ⟨x.gv, fun n hn' hgn => by
    by_cases c : n = i
    · subst c; rw [hg] at hgn; cases hgn
    · exact x.yes n (by omega) hgn, fun k hk => x.no k fun n e hn => hk n e (by omega)⟩
  rcases h with ⟨c, _⟩ | ⟨_, _, c, rfl, rfl, rfl⟩ | ⟨_, _, _, _, rfl, rfl, rfl⟩ | ⟨_, _, c1, c2, c3, _⟩
  · omega
  · refine ⟨?_, rfl, rfl, hx⟩
    unfold Gl.check at c ⊢
    split
    · rfl
    split
    · rfl
    split
    · rfl
    · rename_i h1 h2 h3
      rw [if_neg h1, if_neg h2, if_neg h3] at c
      exact absurd rfl c
  · exact ⟨rfl, rfl, rfl, hx⟩
  · exact absurd ⟨c1, c2, c3⟩ hn

/-- A meter of the police, and its twin. -/
structure Zm where
  n : Nat
  b : Nat
  q : Nat
  ms : MS

/-- The meters that are set so far; how often each was asked. -/
structure MZ (w : Wd) (i c : Nat) (M : MM) (X Y : List (Nat × MS)) (Z : List Zm) : Prop where
  hX : X = Z.map fun z => (z.b, z.ms)
  hY : Y = Z.map fun z => (z.q, z.ms)
  yes : ∀ z ∈ Z, z.n < i ∧ cfB w z.n = true ∧ lk M (z.n : Int) = some z.b ∧ z.ms.Ok ∧ z.ms.k0 ≤ c ∧ z.ms.k1 ≤ c ∧ z.ms.k2 ≤ c
  all : ∀ n : Nat, n < i → cfB w n = true → ∃ z ∈ Z, z.n = n
  no : ∀ k : Int, (∀ n : Nat, k = n → n < i → cfB w n = false) → lk M k = none
  dn : Z.Pairwise fun x y => x.n ≠ y.n
  db : Z.Pairwise fun x y => x.b ≠ y.b
  dq : Z.Pairwise fun x y => x.q ≠ y.q

theorem MZ.start (w : Wd) : MZ w 0 0 [] [] [] [] := ⟨rfl, rfl, fun z hz => (by cases hz), fun n hn => (by omega), fun _ _ => rfl, List.Pairwise.nil, List.Pairwise.nil, List.Pairwise.nil⟩

theorem MZ.bad {w : Wd} {i : Nat} {M : MM} {X Y : List (Nat × MS)} {Z : List Zm} (x : MZ w i 0 M X Y Z) (hg : cfB w i = false) : MZ w (i + 1) 0 M X Y Z :=
  ⟨x.hX, x.hY, fun z hz => by have := x.yes z hz; exact ⟨by omega, this.2⟩, fun n hn hgn => by
    by_cases c : n = i
    · subst c; rw [hg] at hgn; cases hgn
    · exact x.all n (by omega) hgn, fun k hk => x.no k fun n e hn => hk n e (by omega), x.dn, x.db, x.dq⟩

theorem start_ok {a b c d : Int} (h : CfgOk a b c d) : (MS.start a b c d).Ok := by
  obtain ⟨h1, h2, h3, h4⟩ := h
  refine ⟨h1, h2, h3, h4, ?_, ?_, ?_, ?_, ?_, ?_⟩ <;> simp only [MS.start] <;> omega

theorem MZ.good {w : Wd} {i b q : Nat} {M : MM} {X Y : List (Nat × MS)} {Z : List Zm} (x : MZ w i 0 M X Y Z) (hg : cfB w i = true) (hb : ∀ z ∈ X, z.1 ≠ b) (hq : ∀ z ∈ Y, z.1 ≠ q) :
    MZ w (i + 1) 0 (mput i b M) ((b, MS.start (w.cf i).a (w.cf i).b (w.cf i).c (w.cf i).d) :: X) ((q, MS.start (w.cf i).a (w.cf i).b (w.cf i).c (w.cf i).d) :: Y) (⟨i, b, q, MS.start (w.cf i).a (w.cf i).b (w.cf i).c (w.cf i).d⟩ :: Z) := by
  refine ⟨by rw [x.hX]; rfl, by rw [x.hY]; rfl, fun z hz => ?_, fun n hn hgn => ?_, fun k hk => ?_, ?_, ?_, ?_⟩
  · rcases List.mem_cons.1 hz with rfl | hz
    · refine ⟨Nat.lt_succ_self _, hg, by rw [lk_mput, if_pos rfl], start_ok (of_decide_eq_true hg), ?_, ?_, ?_⟩ <;> exact Int.le_refl _
    · have h := x.yes z hz
      refine ⟨by omega, h.2.1, ?_, h.2.2.2⟩
      rw [lk_mput, if_neg (by omega)]
      exact h.2.2.1
  · by_cases c : n = i
    · subst c
      exact ⟨_, List.mem_cons_self, rfl⟩
    · obtain ⟨z, hz, e⟩ := x.all n (by omega) hgn
      exact ⟨z, List.mem_cons_of_mem _ hz, e⟩
  · rw [lk_mput, if_neg (fun e => by have := hk i e (by omega); rw [hg] at this; cases this)]
    exact x.no k fun n e hn => hk n e (by omega)
  · refine List.pairwise_cons.2 ⟨fun z hz => ?_, x.dn⟩
    have := (x.yes z hz).1
    show i ≠ z.n
    omega
  · refine List.pairwise_cons.2 ⟨fun z hz e => ?_, x.db⟩
    exact hb (z.b, z.ms) (by rw [x.hX]; exact List.mem_map_of_mem hz) e.symm
  · refine List.pairwise_cons.2 ⟨fun z hz e => ?_, x.dq⟩
    exact hq (z.q, z.ms) (by rw [x.hY]; exact List.mem_map_of_mem hz) e.symm

/-- A meter is asked: it, and its twin. -/
def askZ (Z : List Zm) (z : Zm) (ms : MS) : List Zm := Z.map fun y => if y.n = z.n then ⟨y.n, y.b, y.q, ms⟩ else y

theorem pair_inj {α : Type} {Z : List Zm} {f : Zm → α} (hd : Z.Pairwise fun x y => f x ≠ f y) {x y : Zm} (hx : x ∈ Z) (hy : y ∈ Z) (e : f x = f y) : x = y := by
  induction Z with
  | nil => cases hx
  | cons a r ih =>
    rw [List.pairwise_cons] at hd
    rcases List.mem_cons.1 hx with h1 | h1
    · rcases List.mem_cons.1 hy with h2 | h2
      · rw [h1, h2]
      · exact absurd (h1 ▸ e) (hd.1 y h2)
    · rcases List.mem_cons.1 hy with h2 | h2
      · exact absurd (h2 ▸ e.symm) (hd.1 x h1)
      · exact ih hd.2 h1 h2

theorem mark_counts (s : MS) (bytes now : Int) {c : Nat} (h0 : s.k0 ≤ c) (h1 : s.k1 ≤ c) (h2 : s.k2 ≤ c) : (s.mark bytes now).1.k0 ≤ (c + 1 : Nat) ∧ (s.mark bytes now).1.k1 ≤ (c + 1 : Nat) ∧ (s.mark bytes now).1.k2 ≤ (c + 1 : Nat) := by
  have e : (s.pass now).k0 = s.k0 ∧ (s.pass now).k1 = s.k1 ∧ (s.pass now).k2 = s.k2 := by
    unfold MS.pass
    split <;> exact ⟨rfl, rfl, rfl⟩
  unfold MS.mark
  dsimp only
  split
  · dsimp only; omega
  split
  · dsimp only; omega
  · dsimp only; omega

theorem MZ.more {w : Wd} {i c : Nat} {M : MM} {X Y : List (Nat × MS)} {Z : List Zm} (x : MZ w i c M X Y Z) : MZ w i (c + 1) M X Y Z :=
  ⟨x.hX, x.hY, fun z hz => by have := x.yes z hz; exact ⟨this.1, this.2.1, this.2.2.1, this.2.2.2.1, by omega, by omega, by omega⟩, x.all, x.no, x.dn, x.db, x.dq⟩

theorem MZ.ask {w : Wd} {i c : Nat} {M : MM} {X Y : List (Nat × MS)} {Z : List Zm} (x : MZ w i c M X Y Z) (hc : c ≤ 1000) {z : Zm} (hz : z ∈ Z) (bytes now : Int) :
    MZ w i (c + 1) M (X.map fun y => if y.1 = z.b then (z.b, (z.ms.mark bytes now).1) else y) (Y.map fun y => if y.1 = z.q then (z.q, (z.ms.mark bytes now).1) else y) (askZ Z z (z.ms.mark bytes now).1) := by
  have key : ∀ y ∈ askZ Z z (z.ms.mark bytes now).1, ∃ y0 ∈ Z, y.n = y0.n ∧ y.b = y0.b ∧ y.q = y0.q ∧ ((y0 = z ∧ y.ms = (z.ms.mark bytes now).1) ∨ y = y0) := by
    intro y hy
    simp only [askZ, List.mem_map] at hy
    obtain ⟨y0, h0, rfl⟩ := hy
    refine ⟨y0, h0, ?_⟩
    split
    · rename_i e
      exact ⟨rfl, rfl, rfl, .inl ⟨pair_inj x.dn h0 hz e, rfl⟩⟩
    · exact ⟨rfl, rfl, rfl, .inr rfl⟩
  have pw : ∀ {α : Type} (f : Zm → α), (∀ y : Zm, ∀ ms, f ⟨y.n, y.b, y.q, ms⟩ = f y) → Z.Pairwise (fun x y => f x ≠ f y) → (askZ Z z (z.ms.mark bytes now).1).Pairwise fun x y => f x ≠ f y := by
    intro α f hf hp
    unfold askZ
    rw [List.pairwise_map]
    refine hp.imp fun {a b} h => ?_
    have e : ∀ y : Zm, f (if y.n = z.n then ⟨y.n, y.b, y.q, (z.ms.mark bytes now).1⟩ else y) = f y := fun y => by
      split
      · exact hf y _
      · rfl
    rw [e, e]
    exact h
  refine ⟨?_, ?_, fun y hy => ?_, fun n hn hg => ?_, x.no, pw Zm.n (fun _ _ => rfl) x.dn, pw Zm.b (fun _ _ => rfl) x.db, pw Zm.q (fun _ _ => rfl) x.dq⟩
  · rw [x.hX]
    unfold askZ
    rw [List.map_map, List.map_map]
    refine List.map_congr_left fun y hy => ?_
    dsimp only [Function.comp]
    by_cases c : y = z
    · subst c; rw [if_pos rfl, if_pos rfl]
    · rw [if_neg (fun e => c (pair_inj x.db hy hz e)), if_neg (fun e => c (pair_inj x.dn hy hz e))]
  · rw [x.hY]
    unfold askZ
    rw [List.map_map, List.map_map]
    refine List.map_congr_left fun y hy => ?_
    dsimp only [Function.comp]
    by_cases c : y = z
    · subst c; rw [if_pos rfl, if_pos rfl]
    · rw [if_neg (fun e => c (pair_inj x.dq hy hz e)), if_neg (fun e => c (pair_inj x.dn hy hz e))]
  · obtain ⟨y0, h0, e1, e2, e3, h⟩ := key y hy
    have k := x.yes y0 h0
    rw [e1, e2]
    refine ⟨k.1, k.2.1, k.2.2.1, ?_⟩
    rcases h with ⟨rfl, h⟩ | rfl
    · rw [h]
      have k2 := k.2.2.2
      exact ⟨k2.1.mark bytes now (by omega) (by omega) (by omega), mark_counts _ _ _ k2.2.1 k2.2.2.1 k2.2.2.2⟩
    · have k2 := k.2.2.2
      exact ⟨k2.1, by omega, by omega, by omega⟩
  · obtain ⟨y, hy, e⟩ := x.all n hn hg
    refine ⟨if y.n = z.n then ⟨y.n, y.b, y.q, (z.ms.mark bytes now).1⟩ else y, List.mem_map_of_mem hy, ?_⟩
    split
    · exact e
    · exact e

end Go.Proofs.Ytloghahkelogbaa
