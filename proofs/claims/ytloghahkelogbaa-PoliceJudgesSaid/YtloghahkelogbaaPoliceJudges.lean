import Derived.Test.YtloghahkelogbaaPG5
namespace Go.Proofs.Ytloghahkelogbaa
open Go.Vc
set_option maxRecDepth 10000
set_option maxHeartbeats 16000000

/-! ### the law PoliceJudges (written by mkpjudges.py) -/

def gB (w : Wd) (i n : Nat) : Bool := Nat.blt n i && goodB w n
def ptq (Z : List Zm) (n : Nat) : Value := match Z.find? (fun z => decide (z.n = n)) with
  | some z => ptrV z.q
  | none => .pointer none

def wbox (w : Wd) (A0 A1 A2 D0 D1 D2 : Option Addr) (a0c a1c a2c d0c d1c d2c : Nat) : List Value := .int .i64 (w.gl 0).base :: .int .i64 (w.gl 0).cycle :: .int .i64 (w.gl 0).ext :: .slice A0 (w.gl 0).es.length a0c :: .int .i64 (w.gl 1).base :: .int .i64 (w.gl 1).cycle :: .int .i64 (w.gl 1).ext :: .slice A1 (w.gl 1).es.length a1c :: .int .i64 (w.gl 2).base :: .int .i64 (w.gl 2).cycle :: .int .i64 (w.gl 2).ext :: .slice A2 (w.gl 2).es.length a2c :: .slice D0 (w.gc 0).length d0c :: .slice D1 (w.gc 1).length d1c :: .slice D2 (w.gc 2).length d2c :: .int .i64 (w.cf 0).a :: .int .i64 (w.cf 0).b :: .int .i64 (w.cf 0).c :: .int .i64 (w.cf 0).d :: .int .i64 (w.cf 1).a :: .int .i64 (w.cf 1).b :: .int .i64 (w.cf 1).c :: .int .i64 (w.cf 1).d :: .int .i64 (w.cf 2).a :: .int .i64 (w.cf 2).b :: .int .i64 (w.cf 2).c :: .int .i64 (w.cf 2).d :: .int .i64 (w.rl 0).most :: .int .i64 (w.rl 0).gate :: .int .i64 (w.rl 0).meter :: .int .i64 (w.rl 1).most :: .int .i64 (w.rl 1).gate :: .int .i64 (w.rl 1).meter :: .int .i64 (w.rl 2).most :: .int .i64 (w.rl 2).gate :: .int .i64 (w.rl 2).meter :: .int .i64 (w.rl 3).most :: .int .i64 (w.rl 3).gate :: .int .i64 (w.rl 3).meter :: []

def zC (g : Nat) (a b c d : Int) : Res := Res.ob g (.cells ([.int .i64 a, .int .i64 b, .int .i64 c, .int .i64 d] : List Value).toArray 56 (0, 0))
def zR (g : Nat) (a b c : Int) : Res := Res.ob g (.cells ([.int .i64 a, .int .i64 b, .int .i64 c] : List Value).toArray 32 (0, 0))
def zV (g : Nat) (v : Vd) : Res := Res.ob g (.cells v.cells.toArray 69 (0, 0))
def zH (g : Nat) (f : Frm) : Res := Res.ob g (.cells (fH f).cells.toArray 67 (0, 0))
def zF (g : Nat) (fl : Int) (fd : UInt8) (fb fc2 : Int) (fe : Bool) : Res := Res.ob g (.cells ([.int .i64 fl, .int .u8 (fd.toNat : Nat), .int .i64 fb, .int .i64 fc2, .bool fe] : List Value).toArray 65 (0, 0))
def pjB (g g2 g6 g7 bR bV bM : Nat) (w : Wd) (box : List Value) (s : Value) (fs : List Flt) (k0 k1 k2 k3 : Int) (R : RM) (V : VM) (M : MM) (B : List Vlv) (X : List (Nat × MS)) (i : Nat) (Z : List Zm) (Y : List (Nat × MS)) : List Res :=
  [Res.pol g s fs bR bV bM k0 k1 k2 k3, Res.mp pI Rul.enc bR R, Res.mp pI Vlv.enc bV V, Res.mp pI ptrV bM M, Res.bag B, Res.mss X, Res.ob g2 (.cells box.toArray 35 (0, 0)), Res.ob g6 (.cells ([.bool (gB w i 0), .bool (gB w i 1), .bool (gB w i 2)] : List Value).toArray 40 (0, 0)), Res.ob g7 (.cells ([ptq Z 0, ptq Z 1, ptq Z 2] : List Value).toArray 42 (0, 0)), Res.mss Y]

theorem ptq_no {Z : List Zm} {n : Nat} (h : ∀ z ∈ Z, z.n ≠ n) : ptq Z n = .pointer none := by
  have e : Z.find? (fun z => decide (z.n = n)) = none := by
    rw [List.find?_eq_none]
    intro z hz
    simpa using h z hz
  unfold ptq
  rw [e]

theorem ptq_mem {Z : List Zm} (hd : Z.Pairwise fun x y => x.n ≠ y.n) {z : Zm} (hz : z ∈ Z) : ptq Z z.n = ptrV z.q := by
  induction Z with
  | nil => cases hz
  | cons x r ih =>
    rw [List.pairwise_cons] at hd
    unfold ptq
    rw [List.find?_cons]
    rcases List.mem_cons.1 hz with rfl | hz
    · rw [decide_eq_true rfl]
    · rw [decide_eq_false (hd.1 z hz)]
      exact ih hd.2 hz

theorem ptq_ask (Z : List Zm) (z : Zm) (ms : MS) (n : Nat) : ptq (askZ Z z ms) n = ptq Z n := by
  unfold ptq askZ
  induction Z with
  | nil => rfl
  | cons x r ih =>
    rw [List.map_cons, List.find?_cons, List.find?_cons]
    have e : (if x.n = z.n then (⟨x.n, x.b, x.q, ms⟩ : Zm) else x).n = x.n := by split <;> rfl
    have e2 : (if x.n = z.n then (⟨x.n, x.b, x.q, ms⟩ : Zm) else x).q = x.q := by split <;> rfl
    rw [e]
    by_cases c : x.n = n
    · rw [decide_eq_true c]
      show ptrV _ = ptrV _
      rw [e2]
    · rw [decide_eq_false c]
      exact ih

theorem nth_get {α : Type} : ∀ (l : List α) (i : Nat), nth l i = l[i]?
  | [], _ => by simp [nth]
  | x :: r, 0 => by simp [nth]
  | x :: r, i + 1 => by simp only [nth]; rw [nth_get r i]; simp

theorem Hp.order {h0 h : Heap} {rs : List Res} (H : Hp h0 h rs) (n : Nat) (p : List Nat) (hp : p.Perm (List.range n)) (hl : rs.length = n) : Hp h0 h (p.map fun i => (nth rs i).getD Res.emp) := by
  refine H.sub ⟨[], ?_⟩
  rw [List.append_nil]
  subst hl
  have e : (List.range rs.length).map (fun n => (nth rs n).getD Res.emp) = rs := by
    apply List.ext_getElem?
    intro i
    by_cases hi : i < rs.length
    · rw [List.getElem?_map, List.getElem?_range hi, Option.map_some, nth_get, List.getElem?_eq_getElem hi]
      rfl
    · rw [List.getElem?_eq_none (by simpa using hi), List.getElem?_eq_none (by omega)]
  have := hp.map fun n => (nth rs n).getD Res.emp
  rwa [e] at this

theorem Hp.eqs {h0 h : Heap} {rs ss : List Res} (H : Hp h0 h rs) (e : rs = ss) : Hp h0 h ss := e ▸ H

theorem joinH {R P : Heap → Prop} {G : Prop} (hp : ∀ h, R h → P h) (hg : (∀ h, R h → P h) → G) : G := hg hp

theorem mm_eq {n : Nat} (h : n < 3) : (if (2 : Int) < (if (0 : Int) > (n : Int) then 0 else (n : Int)) then (2 : Int) else (if (0 : Int) > (n : Int) then 0 else (n : Int))) = (n : Int) := by
  split <;> split <;> omega

theorem mm_ok {n : Nat} (h : n < 3) : (decide ((0 : Int) ≤ (if (2 : Int) < (if (0 : Int) > (n : Int) then 0 else (n : Int)) then (2 : Int) else (if (0 : Int) > (n : Int) then 0 else (n : Int)))) && decide ((if (2 : Int) < (if (0 : Int) > (n : Int) then 0 else (n : Int)) then (2 : Int) else (if (0 : Int) > (n : Int) then 0 else (n : Int))) < ((3 : Nat) : Int))) = true := by
  rw [mm_eq h]
  simp only [Bool.and_eq_true, decide_eq_true_eq]
  omega

theorem mm_off {n : Nat} (h : n < 3) : 0 + (if (2 : Int) < (if (0 : Int) > (n : Int) then 0 else (n : Int)) then (2 : Int) else (if (0 : Int) > (n : Int) then 0 else (n : Int))).toNat * 1 = n := by
  rw [mm_eq h]
  omega

theorem gB_at {w : Wd} {n : Nat} {b : Bool} (h : n < 3) (e : goodB w n = b) : ([.bool (gB w 3 0), .bool (gB w 3 1), .bool (gB w 3 2)] : List Value)[n]? = some (.bool b) := by
  subst e
  rcases (by omega : n = 0 ∨ n = 1 ∨ n = 2) with rfl | rfl | rfl <;> rfl

theorem ptq_at {Z : List Zm} {n : Nat} {v : Value} (h : n < 3) (e : ptq Z n = v) : ([ptq Z 0, ptq Z 1, ptq Z 2] : List Value)[n]? = some v := by
  subst e
  rcases (by omega : n = 0 ∨ n = 1 ∨ n = 2) with rfl | rfl | rfl <;> rfl

theorem mput_len {κ α : Type} [DecidableEq κ] {n : κ} {a : α} : ∀ {L : List (κ × α)}, (mput n a L).length ≤ L.length + 1
  | [] => by simp [mput]
  | x :: r => by
    simp only [mput]
    split
    · simp
    · have := mput_len (n := n) (a := a) (L := r)
      simp only [List.length_cons]
      omega

theorem oF_cells {j : Nat} (h : j < 4) : (oF j).cells = [.int .i64 0, .int .u8 2, .int .u8 (j : Nat), .int .u8 0, .int .u8 0, .int .u8 0, .int .u8 0, .int .i64 0, .int .i64 (j : Nat)] := by
  rcases (by omega : j = 0 ∨ j = 1 ∨ j = 2 ∨ j = 3) with rfl | rfl | rfl | rfl <;> rfl

def vv (a b : Value) : Nat → Value := fun k => if k = 7 then a else if k = 8 then b else .bool false
theorem nbeq_no {k n : Nat} (c : ¬ k = n) : Nat.beq k n = false := by
  cases h : Nat.beq k n with
  | false => rfl
  | true => exact absurd (Nat.eq_of_beq_eq_true h) c
theorem vv_7 (a b v : Value) : setV 7 v (vv a b) = vv v b := by
  funext k
  unfold setV vv
  by_cases c : k = 7
  · subst c; rfl
  · rw [nbeq_no c]; simp [c]
theorem vv_8 (a b v : Value) : setV 8 v (vv a b) = vv a v := by
  funext k
  unfold setV vv
  by_cases c : k = 8
  · subst c; rfl
  · rw [nbeq_no c]; simp [c]

theorem m_off (n : Nat) : 0 + (n : Int).toNat * 1 = n := by omega

theorem joinBH {R P : Bool → Heap → Prop} {G : Prop} (hp : ∀ b h, R b h → P b h) (hg : (∀ b h, R b h → P b h) → G) : G := hg hp

theorem vd_selfA (l : List Nat) (d : Vd) : eqB (EA l) 20 69 d.cells d.cells = some true := Go.Vc.eqB_same (by kernel_rfl)
theorem cnt_self {l : List Nat} (a b c d : Int) : eqB (EA l) 20 56 [.int .i64 a, .int .i64 b, .int .i64 c, .int .i64 d] [.int .i64 a, .int .i64 b, .int .i64 c, .int .i64 d] = some true := Go.Vc.eqB_same (by kernel_rfl)

theorem check_no {l : Gl} (h : ¬ l.check = 0) : l.check = 30 := by
  unfold Gl.check at h ⊢
  split
  · rfl
  split
  · rfl
  split
  · rfl
  · rename_i h1 h2 h3
    rw [if_neg h1, if_neg h2, if_neg h3] at h
    exact absurd rfl h

theorem take_any {α : Type} {p : α → Bool} {l : List α} {i : Nat} {x : α} (h : l[i]? = some x) : (l.take (i + 1)).any p = ((l.take i).any p || p x) := by
  rw [List.take_add_one, h]
  simp

theorem mss_lt {X : List (Nat × MS)} {h : Heap} {q : Nat} (x : (Res.mss X).at_ h) (hq : h.size ≤ q) : ∀ z ∈ X, z.1 ≠ q := by
  intro z hz e
  obtain ⟨T, hT⟩ := (show ∀ x ∈ X, ∃ T, h[x.1]? = some (.cells x.2.cells.toArray T (0, 0)) from x) z hz
  have := lt_of_get hT
  omega

theorem setm_ok {n c0 c1 c2 c3 : Int} {M M' : MM} {X X' : List (Nat × MS)} {e : Nat} (h : SetM n c0 c1 c2 c3 M X e M' X') (h0 : 0 ≤ n) (h1 : n < 32) (hc : CfgOk c0 c1 c2 c3) : e = 0 ∧ ∃ b, (∀ x ∈ X, x.1 ≠ b) ∧ M' = mput n b M ∧ X' = (b, MS.start c0 c1 c2 c3) :: X := by
  rcases h with ⟨c, _⟩ | ⟨_, _, c, _⟩ | ⟨_, _, _, rfl, b, hb, h⟩
  · omega
  · exact absurd hc c
  · exact ⟨rfl, b, hb, h⟩

theorem setm_bad {n c0 c1 c2 c3 : Int} {M M' : MM} {X X' : List (Nat × MS)} {e : Nat} (h : SetM n c0 c1 c2 c3 M X e M' X') (h0 : 0 ≤ n) (h1 : n < 32) (hc : ¬ CfgOk c0 c1 c2 c3) : e = 30 ∧ M' = M ∧ X' = X := by
  rcases h with ⟨c, _⟩ | ⟨_, _, _, h⟩ | ⟨_, _, c, _⟩
  · omega
  · exact h
  · exact absurd c hc

theorem law_PoliceJudges (v0 v1 : Value) (h0 : Heap) (a0 : Arg EE h0 35 v0) (a1 : Arg EE h0 36 v1) :
    CallK Try.prog 3 #[v0, v1] h0 fun v h' => v = .bool true ∧ Keep (fun _ => False) h0 h' := by
  obtain ⟨w, rfl, hw⟩ := arg_world a0
  obtain ⟨fs, hf, hfl, hfb⟩ := arg_frames a1
  have hX := (hw.ents 0 (by omega)).out
  obtain ⟨A0, a0c, es0, _, _⟩ := hX
  have hX := (hw.ints 0 (by omega)).out
  obtain ⟨D0, d0c, ez0, _, _⟩ := hX
  have hX := (hw.ents 1 (by omega)).out
  obtain ⟨A1, a1c, es1, _, _⟩ := hX
  have hX := (hw.ints 1 (by omega)).out
  obtain ⟨D1, d1c, ez1, _, _⟩ := hX
  have hX := (hw.ents 2 (by omega)).out
  obtain ⟨A2, a2c, es2, _, _⟩ := hX
  have hX := (hw.ints 2 (by omega)).out
  obtain ⟨D2, d2c, ez2, _, _⟩ := hX
  have hcells : w.cells = (wbox w A0 A1 A2 D0 D1 D2 a0c a1c a2c d0c d1c d2c) := by
    unfold Wd.cells
    rw [es0, es1, es2, ez0, ez1, ez2]
    rfl
  rw [hcells]
  have he0 : EntsV h0 (.slice A0 (w.gl 0).es.length a0c) (w.gl 0).es := by rw [← es0]; exact hw.ents 0 (by omega)
  have hz0 : IntsV h0 (.slice D0 (w.gc 0).length d0c) (w.gc 0) := by rw [← ez0]; exact hw.ints 0 (by omega)
  have he1 : EntsV h0 (.slice A1 (w.gl 1).es.length a1c) (w.gl 1).es := by rw [← es1]; exact hw.ents 1 (by omega)
  have hz1 : IntsV h0 (.slice D1 (w.gc 1).length d1c) (w.gc 1) := by rw [← ez1]; exact hw.ints 1 (by omega)
  have he2 : EntsV h0 (.slice A2 (w.gl 2).es.length a2c) (w.gl 2).es := by rw [← es2]; exact hw.ents 2 (by omega)
  have hz2 : IntsV h0 (.slice D2 (w.gc 2).length d2c) (w.gc 2) := by rw [← ez2]; exact hw.ints 2 (by omega)
  have hX := hf.out
  obtain ⟨FA, fc, rfl, _, _⟩ := hX
  refine CallK.of_vc (EA_ok [342]) [0, 1, 2, 4, 5, 6, 7, 8, 9, 11, 12, 13, 14, 15, 16, 17, 18, 19, 20, 21, 23, 24, 25, 26, 27, 28, 30, 33, 35, 36, 52, 76, 77, 78, 79, 114, 135, 142, 143, 144, 156, 165, 166, 191, 192, 230, 232, 233, 234, 235, 257, 269, 272, 279, 284, 292, 293, 296, 299, 311, 345] Try.func3 rfl (Nat.le_of_ble_eq_true rfl) ?_
  have H := Hp.start h0
  conv => whnf
  intro g2 h1 N
  replace H := H.new N
  clear N
  conv => whnf
  repeat ((first | refine iteT (by omega) ?_ | refine iteF (by omega) ?_ | refine iteET (by omega) ?_ | refine iteEF (by omega) ?_ | refine iteNT (by omega) ?_ | refine iteNF (by omega) ?_ | refine WrapK.i64 (by omega) (by omega) ?_ | refine Drawn.mk (by kernel_rfl) ?_); conv => whnf)
  refine CallK.mono (judges_call _) ?_
  rintro _ h2 ⟨rfl, k1⟩
  replace H := H.and k1
  clear k1
  by_cases q0 : (fs.length : Int) > 100
  · conv => whnf
    repeat ((first | refine iteT (by omega) ?_ | refine iteF (by omega) ?_ | refine iteET (by omega) ?_ | refine iteEF (by omega) ?_ | refine iteNT (by omega) ?_ | refine iteNF (by omega) ?_ | refine WrapK.i64 (by omega) (by omega) ?_ | refine Drawn.mk (by kernel_rfl) ?_); conv => whnf)
    exact ⟨rfl, H.keep⟩
  conv => whnf
  repeat ((first | refine iteT (by omega) ?_ | refine iteF (by omega) ?_ | refine iteET (by omega) ?_ | refine iteEF (by omega) ?_ | refine iteNT (by omega) ?_ | refine iteNF (by omega) ?_ | refine WrapK.i64 (by omega) (by omega) ?_ | refine Drawn.mk (by kernel_rfl) ?_); conv => whnf)
  refine CallK.mono (pnew_call _) ?_
  rintro _ h3 ⟨g, bR, bV, bM, rfl, P⟩
  have P2 := Hp.no_bag (Hp.no_mss (Hp.no_mss (H.join P)))
  have HH : Hp h0 h3 (Res.pol g (.slice none 0 0) (othF 0) bR bV bM 0 0 0 0 :: Res.mp pI Rul.enc bR [] :: Res.mp pI Vlv.enc bV [] :: Res.mp pI ptrV bM [] :: Res.bag [] :: Res.mss [] :: Res.ob g2 (.cells ((wbox w A0 A1 A2 D0 D1 D2 a0c a1c a2c d0c d1c d2c) : List Value).toArray 35 (0, 0)) :: Res.mss [] :: []) := Hp.order P2 8 [3, 4, 5, 6, 0, 1, 7, 2] (by decide) rfl
  repeat clear H; clear  P P2
  have H := HH
  clear HH
  conv => whnf
  repeat ((first | refine iteT (by omega) ?_ | refine iteF (by omega) ?_ | refine iteET (by omega) ?_ | refine iteEF (by omega) ?_ | refine iteNT (by omega) ?_ | refine iteNF (by omega) ?_ | refine WrapK.i64 (by omega) (by omega) ?_ | refine Drawn.mk (by kernel_rfl) ?_); conv => whnf)
  intro g6 h4 N
  replace H := H.new N
  clear N
  conv => whnf
  repeat ((first | refine iteT (by omega) ?_ | refine iteF (by omega) ?_ | refine iteET (by omega) ?_ | refine iteEF (by omega) ?_ | refine iteNT (by omega) ?_ | refine iteNF (by omega) ?_ | refine WrapK.i64 (by omega) (by omega) ?_ | refine Drawn.mk (by kernel_rfl) ?_); conv => whnf)
  intro g7 h5 N
  replace H := H.new N
  clear N
  conv => whnf
  repeat ((first | refine iteT (by omega) ?_ | refine iteF (by omega) ?_ | refine iteET (by omega) ?_ | refine iteEF (by omega) ?_ | refine iteNT (by omega) ?_ | refine iteNF (by omega) ?_ | refine WrapK.i64 (by omega) (by omega) ?_ | refine Drawn.mk (by kernel_rfl) ?_); conv => whnf)
  have HH : Hp h0 _ (Res.ob g7 (.cells ([ptq [] 0, ptq [] 1, ptq [] 2] : List Value).toArray 42 (0, 0)) :: Res.ob g6 (.cells ([.bool (gB w 0 0), .bool (gB w 0 1), .bool (gB w 0 2)] : List Value).toArray 40 (0, 0)) :: Res.pol g (.slice none 0 0) (othF 0) bR bV bM 0 0 0 0 :: Res.mp pI Rul.enc bR [] :: Res.mp pI Vlv.enc bV [] :: Res.mp pI ptrV bM [] :: Res.bag [] :: Res.mss [] :: Res.ob g2 (.cells ((wbox w A0 A1 A2 D0 D1 D2 a0c a1c a2c d0c d1c d2c) : List Value).toArray 35 (0, 0)) :: Res.mss [] :: []) := H
  repeat clear H
  have H := HH
  clear HH
  have HH : Hp h0 _ (pjB g g2 g6 g7 bR bV bM w (wbox w A0 A1 A2 D0 D1 D2 a0c a1c a2c d0c d1c d2c) (.slice none 0 0) (othF 0) 0 0 0 0 [] [] [] [] [] 0 [] []) := Hp.order H 10 [2, 3, 4, 5, 6, 7, 8, 1, 0, 9] (by decide) rfl
  repeat clear H
  have H := HH
  clear HH
  refine ⟨Nat × (VM × MM × List Vlv) × (List (Nat × MS) × List (Nat × MS) × List Zm), [0, 1, 2, 5, 6, 7, 16, 17, 18, 19, 20, 21, 23, 24, 25, 26, 27, 28, 30, 33, 142, 143, 144, 156, 165, 166, 191, 192, 230, 232, 233, 234, 235, 257, 269, 272, 279, 284, 292, 293, 296, 299, 311, 345], fun q => [(35, .int .i64 (q.1 : Nat))], fun q h' => q.1 ≤ 3 ∧ GS w q.1 q.2.1.1 q.2.1.2.2 ∧ MZ w q.1 0 q.2.1.2.1 q.2.2.1 q.2.2.2.1 q.2.2.2.2 ∧ Hp h0 h' (pjB g g2 g6 g7 bR bV bM w (wbox w A0 A1 A2 D0 D1 D2 a0c a1c a2c d0c d1c d2c) (.slice none 0 0) (othF 0) 0 0 0 0 [] q.2.1.1 q.2.1.2.1 q.2.1.2.2 q.2.2.1 q.1 q.2.2.2.2 q.2.2.2.1), fun q => 3 - q.1, ?_⟩
  conv => whnf
  refine ⟨⟨(0, ([], [], []), ([], [], [])), ⟨rfl, trivial⟩, by show 0 ≤ 3; omega, GS.start w, MZ.start w, H⟩, ?_⟩
  clear H
  rintro ⟨i, ⟨V, M, B⟩, ⟨X, Y, Z⟩⟩ h6 ⟨hi, gs, mz, H⟩
  dsimp only at hi gs mz H ⊢
  have hX : i = 3 ∨ i = 0 ∨ i = 1 ∨ i = 2 := by omega
  rcases hX with rfl | hX
  rotate_left
  · rcases hX with rfl | rfl | rfl
    · conv => whnf
      repeat ((first | refine Hp.ld H 6 rfl rfl ?_ | (refine Hp.st H 7 rfl rfl rfl rfl rfl ?_; intro h H) | (refine Hp.st H 8 rfl rfl rfl rfl rfl ?_; intro h H) | refine iteT (by omega) ?_ | refine iteF (by omega) ?_ | refine iteET (by omega) ?_ | refine iteEF (by omega) ?_ | refine iteNT (by omega) ?_ | refine iteNF (by omega) ?_ | refine WrapK.i64 (by omega) (by omega) ?_ | refine Drawn.mk (by kernel_rfl) ?_); conv => whnf)
      by_cases q1 : ((w.gl 0).es.length : Int) > 70
      · conv => whnf
        repeat ((first | refine Hp.ld H 6 rfl rfl ?_ | (refine Hp.st H 7 rfl rfl rfl rfl rfl ?_; intro h H) | (refine Hp.st H 8 rfl rfl rfl rfl rfl ?_; intro h H) | refine iteT (by omega) ?_ | refine iteF (by omega) ?_ | refine iteET (by omega) ?_ | refine iteEF (by omega) ?_ | refine iteNT (by omega) ?_ | refine iteNF (by omega) ?_ | refine WrapK.i64 (by omega) (by omega) ?_ | refine Drawn.mk (by kernel_rfl) ?_); conv => whnf)
        exact ⟨rfl, H.keep⟩
      by_cases q2 : ((w.gc 0).length : Int) > 70
      · conv => whnf
        repeat ((first | refine Hp.ld H 6 rfl rfl ?_ | (refine Hp.st H 7 rfl rfl rfl rfl rfl ?_; intro h H) | (refine Hp.st H 8 rfl rfl rfl rfl rfl ?_; intro h H) | refine iteT (by omega) ?_ | refine iteF (by omega) ?_ | refine iteET (by omega) ?_ | refine iteEF (by omega) ?_ | refine iteNT (by omega) ?_ | refine iteNF (by omega) ?_ | refine WrapK.i64 (by omega) (by omega) ?_ | refine Drawn.mk (by kernel_rfl) ?_); conv => whnf)
        exact ⟨rfl, H.keep⟩
      conv => whnf
      repeat ((first | refine Hp.ld H 6 rfl rfl ?_ | (refine Hp.st H 7 rfl rfl rfl rfl rfl ?_; intro h H) | (refine Hp.st H 8 rfl rfl rfl rfl rfl ?_; intro h H) | refine iteT (by omega) ?_ | refine iteF (by omega) ?_ | refine iteET (by omega) ?_ | refine iteEF (by omega) ?_ | refine iteNT (by omega) ?_ | refine iteNF (by omega) ?_ | refine WrapK.i64 (by omega) (by omega) ?_ | refine Drawn.mk (by kernel_rfl) ?_); conv => whnf)
      refine CallK.mono (gcheck_call _ (w.gl 0) _ (EntsV.keep he0 H.keep) (by omega)) ?_
      rintro v h7 ⟨kq, ev⟩
      replace H := H.and kq
      clear kq
      by_cases w1 : (w.gl 0).check = 0
      · rw [w1] at ev
        subst ev
        conv => whnf
        repeat ((first | refine Hp.ld H 6 rfl rfl ?_ | (refine Hp.st H 7 rfl rfl rfl rfl rfl ?_; intro h H) | (refine Hp.st H 8 rfl rfl rfl rfl rfl ?_; intro h H) | refine iteT (by omega) ?_ | refine iteF (by omega) ?_ | refine iteET (by omega) ?_ | refine iteEF (by omega) ?_ | refine iteNT (by omega) ?_ | refine iteNF (by omega) ?_ | refine WrapK.i64 (by omega) (by omega) ?_ | refine Drawn.mk (by kernel_rfl) ?_); conv => whnf)
        by_cases w2 : (w.gc 0).length = (w.gl 0).es.length
        · conv => whnf
          repeat ((first | refine Hp.ld H 6 rfl rfl ?_ | (refine Hp.st H 7 rfl rfl rfl rfl rfl ?_; intro h H) | (refine Hp.st H 8 rfl rfl rfl rfl rfl ?_; intro h H) | refine iteT (by omega) ?_ | refine iteF (by omega) ?_ | refine iteET (by omega) ?_ | refine iteEF (by omega) ?_ | refine iteNT (by omega) ?_ | refine iteNF (by omega) ?_ | refine WrapK.i64 (by omega) (by omega) ?_ | refine Drawn.mk (by kernel_rfl) ?_); conv => whnf)
          refine ⟨Nat × Bool, [0, 1, 2, 4, 5, 6, 7, 8, 12, 13, 14, 15, 16, 17, 18, 19, 20, 21, 23, 24, 25, 26, 27, 28, 30, 33, 35, 36, 52, 76, 77, 114, 135, 142, 143, 144, 156, 165, 166, 191, 192, 230, 232, 233, 234, 235, 257, 269, 272, 279, 284, 292, 293, 296, 299, 311, 345], fun q => [(78, .int .i64 (q.1 : Nat)), (9, .bool q.2)], fun q h' => q.1 ≤ (w.gc 0).length ∧ q.2 = (!((w.gc 0).take q.1).any cbad) ∧ Hp h0 h' (pjB g g2 g6 g7 bR bV bM w (wbox w A0 A1 A2 D0 D1 D2 a0c a1c a2c d0c d1c d2c) (.slice none 0 0) (othF 0) 0 0 0 0 [] V M B X 0 Z Y), fun q => (w.gc 0).length - q.1, ?_⟩
          conv => whnf
          refine ⟨⟨(0, true), ⟨rfl, (by rw [w2, beq_self_eq_true]; rfl), trivial⟩, by show 0 ≤ _; omega, rfl, H⟩, ?_⟩
          clear H
          rintro ⟨j, b⟩ h8 ⟨jA, hb, H⟩
          dsimp only at jA hb H ⊢
          by_cases cj : j < (w.gc 0).length
          · have hX := list_at (L := w.gc 0) (i := j) cj
            obtain ⟨c, hc⟩ := hX
            have hX := (RowsV.keep hz0 H.keep).some (by omega)
            obtain ⟨cb, co, hD⟩ := hX
            subst hD
            have hzj : IntsV h8 (.slice (some ⟨cb, co, none⟩) (w.gc 0).length d0c) (w.gc 0) := RowsV.keep hz0 H.keep
            conv => whnf
            repeat ((first | refine iteT (by omega) ?_ | refine iteF (by omega) ?_ | refine iteET (by omega) ?_ | refine iteEF (by omega) ?_ | refine iteNT (by omega) ?_ | refine iteNF (by omega) ?_ | refine WrapK.i64 (by omega) (by omega) ?_ | refine Drawn.mk (by kernel_rfl) ?_); conv => whnf)
            refine int_ld hzj hc rfl rfl rfl (by first | omega | (simp; done) | (simp; omega)) ?_
            have hs : (!((w.gc 0).take (j + 1)).any cbad) = (b && !(cbad c)) := by rw [hb, take_any hc, Bool.not_or]
            rcases b with _ | _
            · conv => whnf
              repeat ((first | refine iteT (by omega) ?_ | refine iteF (by omega) ?_ | refine iteET (by omega) ?_ | refine iteEF (by omega) ?_ | refine iteNT (by omega) ?_ | refine iteNF (by omega) ?_ | refine WrapK.i64 (by omega) (by omega) ?_ | refine Drawn.mk (by kernel_rfl) ?_); conv => whnf)
              exact ⟨(j + 1, false), ⟨(by first | rfl | (show Value.int .i64 _ = _; congr 1; omega) | (show Value.int .i64 _ = _; rw [wrap64_id (by omega) (by omega)]; first | rfl | (congr 1; omega))), rfl, trivial⟩, (by repeat (first | exact trivial | refine ⟨rfl, ?_⟩)), ⟨by show j + 1 ≤ _; omega, hs.symm, H⟩, by show _ - (j + 1) < _ - j; omega⟩
            by_cases d1 : c ≥ -1
            · by_cases d2 : c ≤ 7
              · conv => whnf
                repeat ((first | refine iteT (by omega) ?_ | refine iteF (by omega) ?_ | refine iteET (by omega) ?_ | refine iteEF (by omega) ?_ | refine iteNT (by omega) ?_ | refine iteNF (by omega) ?_ | refine WrapK.i64 (by omega) (by omega) ?_ | refine Drawn.mk (by kernel_rfl) ?_); conv => whnf)
                exact ⟨(j + 1, true), ⟨(by first | rfl | (show Value.int .i64 _ = _; congr 1; omega) | (show Value.int .i64 _ = _; rw [wrap64_id (by omega) (by omega)]; first | rfl | (congr 1; omega))), (by first | rfl | (simp [d2]; rfl)), trivial⟩, (by repeat (first | exact trivial | refine ⟨rfl, ?_⟩)), ⟨by show j + 1 ≤ _; omega, by show _ = _; rw [hs]; unfold cbad; simp; omega, H⟩, by show _ - (j + 1) < _ - j; omega⟩
              · conv => whnf
                repeat ((first | refine iteT (by omega) ?_ | refine iteF (by omega) ?_ | refine iteET (by omega) ?_ | refine iteEF (by omega) ?_ | refine iteNT (by omega) ?_ | refine iteNF (by omega) ?_ | refine WrapK.i64 (by omega) (by omega) ?_ | refine Drawn.mk (by kernel_rfl) ?_); conv => whnf)
                exact ⟨(j + 1, false), ⟨(by first | rfl | (show Value.int .i64 _ = _; congr 1; omega) | (show Value.int .i64 _ = _; rw [wrap64_id (by omega) (by omega)]; first | rfl | (congr 1; omega))), (by first | rfl | (simp [d2]; rfl)), trivial⟩, (by repeat (first | exact trivial | refine ⟨rfl, ?_⟩)), ⟨by show j + 1 ≤ _; omega, by show _ = _; rw [hs]; unfold cbad; simp; omega, H⟩, by show _ - (j + 1) < _ - j; omega⟩
            · conv => whnf
              repeat ((first | refine iteT (by omega) ?_ | refine iteF (by omega) ?_ | refine iteET (by omega) ?_ | refine iteEF (by omega) ?_ | refine iteNT (by omega) ?_ | refine iteNF (by omega) ?_ | refine WrapK.i64 (by omega) (by omega) ?_ | refine Drawn.mk (by kernel_rfl) ?_); conv => whnf)
              exact ⟨(j + 1, false), ⟨(by first | rfl | (show Value.int .i64 _ = _; congr 1; omega) | (show Value.int .i64 _ = _; rw [wrap64_id (by omega) (by omega)]; first | rfl | (congr 1; omega))), (by first | rfl | (simp [d2]; rfl)), trivial⟩, (by repeat (first | exact trivial | refine ⟨rfl, ?_⟩)), ⟨by show j + 1 ≤ _; omega, by show _ = _; rw [hs]; unfold cbad; simp; omega, H⟩, by show _ - (j + 1) < _ - j; omega⟩
          have e : j = (w.gc 0).length := by omega
          subst e
          rw [List.take_length] at hb
          rcases b with _ | _
          · have hg : goodB w 0 = false := by
              rw [Bool.eq_false_iff]
              intro e
              rw [(goodB_true.1 e).2.2] at hb
              cases hb
            conv => whnf
            repeat ((first | refine Hp.ld H 6 rfl rfl ?_ | refine iteT (by omega) ?_ | refine iteF (by omega) ?_ | refine iteET (by omega) ?_ | refine iteEF (by omega) ?_ | refine iteNT (by omega) ?_ | refine iteNF (by omega) ?_ | refine WrapK.i64 (by omega) (by omega) ?_ | refine Drawn.mk (by kernel_rfl) ?_); conv => whnf)
            refine CallK.mono (setgate_call H 0 (w.gl 0) _ _ (w.gc 0) (EntsV.keep he0 H.keep) (RowsV.keep hz0 H.keep) (by omega) (by omega)) ?_
            rintro _ h9 ⟨e, V1, B1, hr, rfl, P⟩
            have hr2 := gs.bad (by omega) hr hg
            obtain ⟨rfl, rfl, rfl, gs1⟩ := hr2
            clear hr H
            have H := P
            clear P
            conv => whnf
            repeat ((first | refine Hp.ld H 6 rfl rfl ?_ | (refine Hp.st H 7 rfl rfl rfl rfl rfl ?_; intro h H) | refine iteT (by omega) ?_ | refine iteF (by omega) ?_ | refine iteET (by omega) ?_ | refine iteEF (by omega) ?_ | refine iteNT (by omega) ?_ | refine iteNF (by omega) ?_ | refine WrapK.i64 (by omega) (by omega) ?_ | refine Drawn.mk (by kernel_rfl) ?_); conv => whnf)
            have HH : Hp h0 _ (pjB g g2 g6 g7 bR bV bM w (wbox w A0 A1 A2 D0 D1 D2 a0c a1c a2c d0c d1c d2c) (.slice none 0 0) (othF 0) 0 0 0 0 [] V1 M B1 X 1 Z Y) := Hp.eqs H (by unfold pjB; rw [show gB w 1 0 = false from hg]; rfl)
            repeat clear H
            have H := HH
            clear HH
            by_cases cc : CfgOk (w.cf 0).a (w.cf 0).b (w.cf 0).c (w.cf 0).d
            · have hcf : cfB w 0 = true := decide_eq_true cc
              refine CallK.mono (new_ok_call _ _ _ _ _ cc) ?_
              rintro _ h10 ⟨q, Tq, rfl, kq, hqs, hqc⟩
              have hq : ∀ z ∈ Y, z.1 ≠ q := mss_lt (H.get 9 rfl) hqs
              have H2 := Hp.mss_new (m := MS.start (w.cf 0).a (w.cf 0).b (w.cf 0).c (w.cf 0).d) H 9 rfl kq hqs hqc
              have HH : Hp h0 _ (pjB g g2 g6 g7 bR bV bM w (wbox w A0 A1 A2 D0 D1 D2 a0c a1c a2c d0c d1c d2c) (.slice none 0 0) (othF 0) 0 0 0 0 [] V1 M B1 X 1 Z ((q, (MS.start (w.cf 0).a (w.cf 0).b (w.cf 0).c (w.cf 0).d)) :: Y)) := H2
              repeat clear H; clear H2
              have H := HH
              clear HH
              clear kq
              conv => whnf
              repeat ((first | refine Hp.ld H 6 rfl rfl ?_ | refine iteT (by omega) ?_ | refine iteF (by omega) ?_ | refine iteET (by omega) ?_ | refine iteEF (by omega) ?_ | refine iteNT (by omega) ?_ | refine iteNF (by omega) ?_ | refine WrapK.i64 (by omega) (by omega) ?_ | refine Drawn.mk (by kernel_rfl) ?_); conv => whnf)
              have HH : Hp h0 _ (Res.pol g (.slice none 0 0) (othF 0) bR bV bM 0 0 0 0 :: Res.mp pI Rul.enc bR [] :: Res.mp pI Vlv.enc bV V1 :: Res.mp pI ptrV bM M :: Res.mss X :: Res.bag B1 :: Res.ob g2 (.cells ((wbox w A0 A1 A2 D0 D1 D2 a0c a1c a2c d0c d1c d2c) : List Value).toArray 35 (0, 0)) :: Res.ob g6 (.cells ([.bool (gB w 1 0), .bool (gB w 1 1), .bool (gB w 1 2)] : List Value).toArray 40 (0, 0)) :: Res.ob g7 (.cells ([ptq Z 0, ptq Z 1, ptq Z 2] : List Value).toArray 42 (0, 0)) :: Res.mss ((q, (MS.start (w.cf 0).a (w.cf 0).b (w.cf 0).c (w.cf 0).d)) :: Y) :: []) := Hp.order H 10 [0, 1, 2, 3, 5, 4, 6, 7, 8, 9] (by decide) rfl
              repeat clear H
              have H := HH
              clear HH
              refine CallK.mono (setmeter_call H 0 _ _ _ _) ?_
              rintro _ h11 ⟨e, M1, X1, hr, rfl, P⟩
              have hr2 := setm_ok hr (by omega) (by omega) cc
              obtain ⟨rfl, b1, hb1, rfl, rfl⟩ := hr2
              have mz1 := mz.good hcf hb1 hq
              repeat clear H
              have H := P
              clear P
              have HH : Hp h0 _ (pjB g g2 g6 g7 bR bV bM w (wbox w A0 A1 A2 D0 D1 D2 a0c a1c a2c d0c d1c d2c) (.slice none 0 0) (othF 0) 0 0 0 0 [] V1 (mput 0 b1 M) B1 ((b1, (MS.start (w.cf 0).a (w.cf 0).b (w.cf 0).c (w.cf 0).d)) :: X) 1 Z ((q, (MS.start (w.cf 0).a (w.cf 0).b (w.cf 0).c (w.cf 0).d)) :: Y)) := Hp.order H 10 [0, 1, 2, 3, 5, 4, 6, 7, 8, 9] (by decide) rfl
              repeat clear H
              have H := HH
              clear HH
              conv => whnf
              repeat ((first | (refine Hp.st H 8 rfl rfl rfl rfl rfl ?_; intro h H) | refine iteT (by omega) ?_ | refine iteF (by omega) ?_ | refine iteET (by omega) ?_ | refine iteEF (by omega) ?_ | refine iteNT (by omega) ?_ | refine iteNF (by omega) ?_ | refine WrapK.i64 (by omega) (by omega) ?_ | refine Drawn.mk (by kernel_rfl) ?_); conv => whnf)
              have HH : Hp h0 _ (pjB g g2 g6 g7 bR bV bM w (wbox w A0 A1 A2 D0 D1 D2 a0c a1c a2c d0c d1c d2c) (.slice none 0 0) (othF 0) 0 0 0 0 [] V1 (mput 0 b1 M) B1 ((b1, (MS.start (w.cf 0).a (w.cf 0).b (w.cf 0).c (w.cf 0).d)) :: X) 1 (⟨0, b1, q, (MS.start (w.cf 0).a (w.cf 0).b (w.cf 0).c (w.cf 0).d)⟩ :: Z) ((q, (MS.start (w.cf 0).a (w.cf 0).b (w.cf 0).c (w.cf 0).d)) :: Y)) := H
              repeat clear H
              have H := HH
              clear HH
              exact ⟨(1, (V1, (mput 0 b1 M), B1), (((b1, (MS.start (w.cf 0).a (w.cf 0).b (w.cf 0).c (w.cf 0).d)) :: X), ((q, (MS.start (w.cf 0).a (w.cf 0).b (w.cf 0).c (w.cf 0).d)) :: Y), (⟨0, b1, q, (MS.start (w.cf 0).a (w.cf 0).b (w.cf 0).c (w.cf 0).d)⟩ :: Z))), ⟨(by first | rfl | (show Value.int .i64 _ = _; congr 1; omega) | (show Value.int .i64 _ = _; rw [wrap64_id (by omega) (by omega)]; first | rfl | (congr 1; omega))), trivial⟩, (by repeat (first | exact trivial | refine ⟨rfl, ?_⟩)), ⟨by show 1 ≤ 3; omega, gs1, mz1, H⟩, by show 3 - 1 < 3 - 0; omega⟩
            · have hcf : cfB w 0 = false := decide_eq_false cc
              refine CallK.mono (new_bad_call _ _ _ _ _ cc) ?_
              rintro _ h10 ⟨rfl, kq⟩
              replace H := H.and kq
              clear kq
              conv => whnf
              repeat ((first | refine Hp.ld H 6 rfl rfl ?_ | refine iteT (by omega) ?_ | refine iteF (by omega) ?_ | refine iteET (by omega) ?_ | refine iteEF (by omega) ?_ | refine iteNT (by omega) ?_ | refine iteNF (by omega) ?_ | refine WrapK.i64 (by omega) (by omega) ?_ | refine Drawn.mk (by kernel_rfl) ?_); conv => whnf)
              have HH : Hp h0 _ (Res.pol g (.slice none 0 0) (othF 0) bR bV bM 0 0 0 0 :: Res.mp pI Rul.enc bR [] :: Res.mp pI Vlv.enc bV V1 :: Res.mp pI ptrV bM M :: Res.mss X :: Res.bag B1 :: Res.ob g2 (.cells ((wbox w A0 A1 A2 D0 D1 D2 a0c a1c a2c d0c d1c d2c) : List Value).toArray 35 (0, 0)) :: Res.ob g6 (.cells ([.bool (gB w 1 0), .bool (gB w 1 1), .bool (gB w 1 2)] : List Value).toArray 40 (0, 0)) :: Res.ob g7 (.cells ([ptq Z 0, ptq Z 1, ptq Z 2] : List Value).toArray 42 (0, 0)) :: Res.mss Y :: []) := Hp.order H 10 [0, 1, 2, 3, 5, 4, 6, 7, 8, 9] (by decide) rfl
              repeat clear H
              have H := HH
              clear HH
              refine CallK.mono (setmeter_call H 0 _ _ _ _) ?_
              rintro _ h11 ⟨e, M1, X1, hr, rfl, P⟩
              have hr2 := setm_bad hr (by omega) (by omega) cc
              obtain ⟨rfl, rfl, rfl⟩ := hr2
              have mz1 := mz.bad hcf
              repeat clear H
              have H := P
              clear P
              have HH : Hp h0 _ (pjB g g2 g6 g7 bR bV bM w (wbox w A0 A1 A2 D0 D1 D2 a0c a1c a2c d0c d1c d2c) (.slice none 0 0) (othF 0) 0 0 0 0 [] V1 M1 B1 X1 1 Z Y) := Hp.order H 10 [0, 1, 2, 3, 5, 4, 6, 7, 8, 9] (by decide) rfl
              repeat clear H
              have H := HH
              clear HH
              conv => whnf
              repeat ((first | (refine Hp.st H 8 rfl rfl rfl rfl rfl ?_; intro h H) | refine iteT (by omega) ?_ | refine iteF (by omega) ?_ | refine iteET (by omega) ?_ | refine iteEF (by omega) ?_ | refine iteNT (by omega) ?_ | refine iteNF (by omega) ?_ | refine WrapK.i64 (by omega) (by omega) ?_ | refine Drawn.mk (by kernel_rfl) ?_); conv => whnf)
              have HH : Hp h0 _ (pjB g g2 g6 g7 bR bV bM w (wbox w A0 A1 A2 D0 D1 D2 a0c a1c a2c d0c d1c d2c) (.slice none 0 0) (othF 0) 0 0 0 0 [] V1 M1 B1 X1 1 Z Y) := Hp.eqs H (by unfold pjB; rw [ptq_no (fun z hz => by have := (mz.yes z hz).1; omega : ∀ z ∈ Z, z.n ≠ 0)]; rfl)
              repeat clear H
              have H := HH
              clear HH
              exact ⟨(1, (V1, M1, B1), (X1, Y, Z)), ⟨(by first | rfl | (show Value.int .i64 _ = _; congr 1; omega) | (show Value.int .i64 _ = _; rw [wrap64_id (by omega) (by omega)]; first | rfl | (congr 1; omega))), trivial⟩, (by repeat (first | exact trivial | refine ⟨rfl, ?_⟩)), ⟨by show 1 ≤ 3; omega, gs1, mz1, H⟩, by show 3 - 1 < 3 - 0; omega⟩
          · have hg : goodB w 0 = true := goodB_true.2 ⟨w1, w2, by simpa using hb.symm⟩
            conv => whnf
            repeat ((first | refine Hp.ld H 6 rfl rfl ?_ | refine iteT (by omega) ?_ | refine iteF (by omega) ?_ | refine iteET (by omega) ?_ | refine iteEF (by omega) ?_ | refine iteNT (by omega) ?_ | refine iteNF (by omega) ?_ | refine WrapK.i64 (by omega) (by omega) ?_ | refine Drawn.mk (by kernel_rfl) ?_); conv => whnf)
            refine CallK.mono (setgate_call H 0 (w.gl 0) _ _ (w.gc 0) (EntsV.keep he0 H.keep) (RowsV.keep hz0 H.keep) (by omega) (by omega)) ?_
            rintro _ h9 ⟨e, V1, B1, hr, rfl, P⟩
            have hr2 := gs.good (by omega) hr hg
            obtain ⟨rfl, gs1⟩ := hr2
            clear hr H
            have H := P
            clear P
            conv => whnf
            repeat ((first | refine Hp.ld H 6 rfl rfl ?_ | (refine Hp.st H 7 rfl rfl rfl rfl rfl ?_; intro h H) | refine iteT (by omega) ?_ | refine iteF (by omega) ?_ | refine iteET (by omega) ?_ | refine iteEF (by omega) ?_ | refine iteNT (by omega) ?_ | refine iteNF (by omega) ?_ | refine WrapK.i64 (by omega) (by omega) ?_ | refine Drawn.mk (by kernel_rfl) ?_); conv => whnf)
            have HH : Hp h0 _ (pjB g g2 g6 g7 bR bV bM w (wbox w A0 A1 A2 D0 D1 D2 a0c a1c a2c d0c d1c d2c) (.slice none 0 0) (othF 0) 0 0 0 0 [] V1 M B1 X 1 Z Y) := Hp.eqs H (by unfold pjB; rw [show gB w 1 0 = true from hg]; rfl)
            repeat clear H
            have H := HH
            clear HH
            by_cases cc : CfgOk (w.cf 0).a (w.cf 0).b (w.cf 0).c (w.cf 0).d
            · have hcf : cfB w 0 = true := decide_eq_true cc
              refine CallK.mono (new_ok_call _ _ _ _ _ cc) ?_
              rintro _ h10 ⟨q, Tq, rfl, kq, hqs, hqc⟩
              have hq : ∀ z ∈ Y, z.1 ≠ q := mss_lt (H.get 9 rfl) hqs
              have H2 := Hp.mss_new (m := MS.start (w.cf 0).a (w.cf 0).b (w.cf 0).c (w.cf 0).d) H 9 rfl kq hqs hqc
              have HH : Hp h0 _ (pjB g g2 g6 g7 bR bV bM w (wbox w A0 A1 A2 D0 D1 D2 a0c a1c a2c d0c d1c d2c) (.slice none 0 0) (othF 0) 0 0 0 0 [] V1 M B1 X 1 Z ((q, (MS.start (w.cf 0).a (w.cf 0).b (w.cf 0).c (w.cf 0).d)) :: Y)) := H2
              repeat clear H; clear H2
              have H := HH
              clear HH
              clear kq
              conv => whnf
              repeat ((first | refine Hp.ld H 6 rfl rfl ?_ | refine iteT (by omega) ?_ | refine iteF (by omega) ?_ | refine iteET (by omega) ?_ | refine iteEF (by omega) ?_ | refine iteNT (by omega) ?_ | refine iteNF (by omega) ?_ | refine WrapK.i64 (by omega) (by omega) ?_ | refine Drawn.mk (by kernel_rfl) ?_); conv => whnf)
              have HH : Hp h0 _ (Res.pol g (.slice none 0 0) (othF 0) bR bV bM 0 0 0 0 :: Res.mp pI Rul.enc bR [] :: Res.mp pI Vlv.enc bV V1 :: Res.mp pI ptrV bM M :: Res.mss X :: Res.bag B1 :: Res.ob g2 (.cells ((wbox w A0 A1 A2 D0 D1 D2 a0c a1c a2c d0c d1c d2c) : List Value).toArray 35 (0, 0)) :: Res.ob g6 (.cells ([.bool (gB w 1 0), .bool (gB w 1 1), .bool (gB w 1 2)] : List Value).toArray 40 (0, 0)) :: Res.ob g7 (.cells ([ptq Z 0, ptq Z 1, ptq Z 2] : List Value).toArray 42 (0, 0)) :: Res.mss ((q, (MS.start (w.cf 0).a (w.cf 0).b (w.cf 0).c (w.cf 0).d)) :: Y) :: []) := Hp.order H 10 [0, 1, 2, 3, 5, 4, 6, 7, 8, 9] (by decide) rfl
              repeat clear H
              have H := HH
              clear HH
              refine CallK.mono (setmeter_call H 0 _ _ _ _) ?_
              rintro _ h11 ⟨e, M1, X1, hr, rfl, P⟩
              have hr2 := setm_ok hr (by omega) (by omega) cc
              obtain ⟨rfl, b1, hb1, rfl, rfl⟩ := hr2
              have mz1 := mz.good hcf hb1 hq
              repeat clear H
              have H := P
              clear P
              have HH : Hp h0 _ (pjB g g2 g6 g7 bR bV bM w (wbox w A0 A1 A2 D0 D1 D2 a0c a1c a2c d0c d1c d2c) (.slice none 0 0) (othF 0) 0 0 0 0 [] V1 (mput 0 b1 M) B1 ((b1, (MS.start (w.cf 0).a (w.cf 0).b (w.cf 0).c (w.cf 0).d)) :: X) 1 Z ((q, (MS.start (w.cf 0).a (w.cf 0).b (w.cf 0).c (w.cf 0).d)) :: Y)) := Hp.order H 10 [0, 1, 2, 3, 5, 4, 6, 7, 8, 9] (by decide) rfl
              repeat clear H
              have H := HH
              clear HH
              conv => whnf
              repeat ((first | (refine Hp.st H 8 rfl rfl rfl rfl rfl ?_; intro h H) | refine iteT (by omega) ?_ | refine iteF (by omega) ?_ | refine iteET (by omega) ?_ | refine iteEF (by omega) ?_ | refine iteNT (by omega) ?_ | refine iteNF (by omega) ?_ | refine WrapK.i64 (by omega) (by omega) ?_ | refine Drawn.mk (by kernel_rfl) ?_); conv => whnf)
              have HH : Hp h0 _ (pjB g g2 g6 g7 bR bV bM w (wbox w A0 A1 A2 D0 D1 D2 a0c a1c a2c d0c d1c d2c) (.slice none 0 0) (othF 0) 0 0 0 0 [] V1 (mput 0 b1 M) B1 ((b1, (MS.start (w.cf 0).a (w.cf 0).b (w.cf 0).c (w.cf 0).d)) :: X) 1 (⟨0, b1, q, (MS.start (w.cf 0).a (w.cf 0).b (w.cf 0).c (w.cf 0).d)⟩ :: Z) ((q, (MS.start (w.cf 0).a (w.cf 0).b (w.cf 0).c (w.cf 0).d)) :: Y)) := H
              repeat clear H
              have H := HH
              clear HH
              exact ⟨(1, (V1, (mput 0 b1 M), B1), (((b1, (MS.start (w.cf 0).a (w.cf 0).b (w.cf 0).c (w.cf 0).d)) :: X), ((q, (MS.start (w.cf 0).a (w.cf 0).b (w.cf 0).c (w.cf 0).d)) :: Y), (⟨0, b1, q, (MS.start (w.cf 0).a (w.cf 0).b (w.cf 0).c (w.cf 0).d)⟩ :: Z))), ⟨(by first | rfl | (show Value.int .i64 _ = _; congr 1; omega) | (show Value.int .i64 _ = _; rw [wrap64_id (by omega) (by omega)]; first | rfl | (congr 1; omega))), trivial⟩, (by repeat (first | exact trivial | refine ⟨rfl, ?_⟩)), ⟨by show 1 ≤ 3; omega, gs1, mz1, H⟩, by show 3 - 1 < 3 - 0; omega⟩
            · have hcf : cfB w 0 = false := decide_eq_false cc
              refine CallK.mono (new_bad_call _ _ _ _ _ cc) ?_
              rintro _ h10 ⟨rfl, kq⟩
              replace H := H.and kq
              clear kq
              conv => whnf
              repeat ((first | refine Hp.ld H 6 rfl rfl ?_ | refine iteT (by omega) ?_ | refine iteF (by omega) ?_ | refine iteET (by omega) ?_ | refine iteEF (by omega) ?_ | refine iteNT (by omega) ?_ | refine iteNF (by omega) ?_ | refine WrapK.i64 (by omega) (by omega) ?_ | refine Drawn.mk (by kernel_rfl) ?_); conv => whnf)
              have HH : Hp h0 _ (Res.pol g (.slice none 0 0) (othF 0) bR bV bM 0 0 0 0 :: Res.mp pI Rul.enc bR [] :: Res.mp pI Vlv.enc bV V1 :: Res.mp pI ptrV bM M :: Res.mss X :: Res.bag B1 :: Res.ob g2 (.cells ((wbox w A0 A1 A2 D0 D1 D2 a0c a1c a2c d0c d1c d2c) : List Value).toArray 35 (0, 0)) :: Res.ob g6 (.cells ([.bool (gB w 1 0), .bool (gB w 1 1), .bool (gB w 1 2)] : List Value).toArray 40 (0, 0)) :: Res.ob g7 (.cells ([ptq Z 0, ptq Z 1, ptq Z 2] : List Value).toArray 42 (0, 0)) :: Res.mss Y :: []) := Hp.order H 10 [0, 1, 2, 3, 5, 4, 6, 7, 8, 9] (by decide) rfl
              repeat clear H
              have H := HH
              clear HH
              refine CallK.mono (setmeter_call H 0 _ _ _ _) ?_
              rintro _ h11 ⟨e, M1, X1, hr, rfl, P⟩
              have hr2 := setm_bad hr (by omega) (by omega) cc
              obtain ⟨rfl, rfl, rfl⟩ := hr2
              have mz1 := mz.bad hcf
              repeat clear H
              have H := P
              clear P
              have HH : Hp h0 _ (pjB g g2 g6 g7 bR bV bM w (wbox w A0 A1 A2 D0 D1 D2 a0c a1c a2c d0c d1c d2c) (.slice none 0 0) (othF 0) 0 0 0 0 [] V1 M1 B1 X1 1 Z Y) := Hp.order H 10 [0, 1, 2, 3, 5, 4, 6, 7, 8, 9] (by decide) rfl
              repeat clear H
              have H := HH
              clear HH
              conv => whnf
              repeat ((first | (refine Hp.st H 8 rfl rfl rfl rfl rfl ?_; intro h H) | refine iteT (by omega) ?_ | refine iteF (by omega) ?_ | refine iteET (by omega) ?_ | refine iteEF (by omega) ?_ | refine iteNT (by omega) ?_ | refine iteNF (by omega) ?_ | refine WrapK.i64 (by omega) (by omega) ?_ | refine Drawn.mk (by kernel_rfl) ?_); conv => whnf)
              have HH : Hp h0 _ (pjB g g2 g6 g7 bR bV bM w (wbox w A0 A1 A2 D0 D1 D2 a0c a1c a2c d0c d1c d2c) (.slice none 0 0) (othF 0) 0 0 0 0 [] V1 M1 B1 X1 1 Z Y) := Hp.eqs H (by unfold pjB; rw [ptq_no (fun z hz => by have := (mz.yes z hz).1; omega : ∀ z ∈ Z, z.n ≠ 0)]; rfl)
              repeat clear H
              have H := HH
              clear HH
              exact ⟨(1, (V1, M1, B1), (X1, Y, Z)), ⟨(by first | rfl | (show Value.int .i64 _ = _; congr 1; omega) | (show Value.int .i64 _ = _; rw [wrap64_id (by omega) (by omega)]; first | rfl | (congr 1; omega))), trivial⟩, (by repeat (first | exact trivial | refine ⟨rfl, ?_⟩)), ⟨by show 1 ≤ 3; omega, gs1, mz1, H⟩, by show 3 - 1 < 3 - 0; omega⟩
        · conv => whnf
          repeat ((first | refine Hp.ld H 6 rfl rfl ?_ | (refine Hp.st H 7 rfl rfl rfl rfl rfl ?_; intro h H) | (refine Hp.st H 8 rfl rfl rfl rfl rfl ?_; intro h H) | refine iteT (by omega) ?_ | refine iteF (by omega) ?_ | refine iteET (by omega) ?_ | refine iteEF (by omega) ?_ | refine iteNT (by omega) ?_ | refine iteNF (by omega) ?_ | refine WrapK.i64 (by omega) (by omega) ?_ | refine Drawn.mk (by kernel_rfl) ?_); conv => whnf)
          refine ⟨Nat × Bool, [0, 1, 2, 4, 5, 6, 7, 8, 12, 13, 14, 15, 16, 17, 18, 19, 20, 21, 23, 24, 25, 26, 27, 28, 30, 33, 35, 36, 52, 76, 77, 114, 135, 142, 143, 144, 156, 165, 166, 191, 192, 230, 232, 233, 234, 235, 257, 269, 272, 279, 284, 292, 293, 296, 299, 311, 345], fun q => [(78, .int .i64 (q.1 : Nat)), (9, .bool false)], fun q h' => q.1 ≤ (w.gc 0).length ∧ Hp h0 h' (pjB g g2 g6 g7 bR bV bM w (wbox w A0 A1 A2 D0 D1 D2 a0c a1c a2c d0c d1c d2c) (.slice none 0 0) (othF 0) 0 0 0 0 [] V M B X 0 Z Y), fun q => (w.gc 0).length - q.1, ?_⟩
          conv => whnf
          refine ⟨⟨(0, true), ⟨rfl, (by rw [show (((w.gc 0).length : Int) == ((w.gl 0).es.length : Int)) = false from beq_false_of_ne (by omega)]; rfl), trivial⟩, by show 0 ≤ _; omega, H⟩, ?_⟩
          clear H
          rintro ⟨j, b⟩ h8 ⟨jA, H⟩
          dsimp only at jA H ⊢
          by_cases cj : j < (w.gc 0).length
          · have hX := list_at (L := w.gc 0) (i := j) cj
            obtain ⟨c, hc⟩ := hX
            have hX := (RowsV.keep hz0 H.keep).some (by omega)
            obtain ⟨cb, co, hD⟩ := hX
            subst hD
            have hzj : IntsV h8 (.slice (some ⟨cb, co, none⟩) (w.gc 0).length d0c) (w.gc 0) := RowsV.keep hz0 H.keep
            conv => whnf
            repeat ((first | refine iteT (by omega) ?_ | refine iteF (by omega) ?_ | refine iteET (by omega) ?_ | refine iteEF (by omega) ?_ | refine iteNT (by omega) ?_ | refine iteNF (by omega) ?_ | refine WrapK.i64 (by omega) (by omega) ?_ | refine Drawn.mk (by kernel_rfl) ?_); conv => whnf)
            refine int_ld hzj hc rfl rfl rfl (by first | omega | (simp; done) | (simp; omega)) ?_
            conv => whnf
            repeat ((first | refine iteT (by omega) ?_ | refine iteF (by omega) ?_ | refine iteET (by omega) ?_ | refine iteEF (by omega) ?_ | refine iteNT (by omega) ?_ | refine iteNF (by omega) ?_ | refine WrapK.i64 (by omega) (by omega) ?_ | refine Drawn.mk (by kernel_rfl) ?_); conv => whnf)
            exact ⟨(j + 1, b), ⟨(by first | rfl | (show Value.int .i64 _ = _; congr 1; omega) | (show Value.int .i64 _ = _; rw [wrap64_id (by omega) (by omega)]; first | rfl | (congr 1; omega))), rfl, trivial⟩, (by repeat (first | exact trivial | refine ⟨rfl, ?_⟩)), ⟨by show j + 1 ≤ _; omega, H⟩, by show _ - (j + 1) < _ - j; omega⟩
          have e : j = (w.gc 0).length := by omega
          subst e
          have hg : goodB w 0 = false := by
            rw [Bool.eq_false_iff]
            exact (fun e => absurd (goodB_true.1 e).2.1 w2)
          conv => whnf
          repeat ((first | refine Hp.ld H 6 rfl rfl ?_ | refine iteT (by omega) ?_ | refine iteF (by omega) ?_ | refine iteET (by omega) ?_ | refine iteEF (by omega) ?_ | refine iteNT (by omega) ?_ | refine iteNF (by omega) ?_ | refine WrapK.i64 (by omega) (by omega) ?_ | refine Drawn.mk (by kernel_rfl) ?_); conv => whnf)
          refine CallK.mono (setgate_call H 0 (w.gl 0) _ _ (w.gc 0) (EntsV.keep he0 H.keep) (RowsV.keep hz0 H.keep) (by omega) (by omega)) ?_
          rintro _ h9 ⟨e, V1, B1, hr, rfl, P⟩
          have hr2 := gs.bad (by omega) hr hg
          obtain ⟨rfl, rfl, rfl, gs1⟩ := hr2
          clear hr H
          have H := P
          clear P
          conv => whnf
          repeat ((first | refine Hp.ld H 6 rfl rfl ?_ | (refine Hp.st H 7 rfl rfl rfl rfl rfl ?_; intro h H) | refine iteT (by omega) ?_ | refine iteF (by omega) ?_ | refine iteET (by omega) ?_ | refine iteEF (by omega) ?_ | refine iteNT (by omega) ?_ | refine iteNF (by omega) ?_ | refine WrapK.i64 (by omega) (by omega) ?_ | refine Drawn.mk (by kernel_rfl) ?_); conv => whnf)
          have HH : Hp h0 _ (pjB g g2 g6 g7 bR bV bM w (wbox w A0 A1 A2 D0 D1 D2 a0c a1c a2c d0c d1c d2c) (.slice none 0 0) (othF 0) 0 0 0 0 [] V1 M B1 X 1 Z Y) := Hp.eqs H (by unfold pjB; rw [show gB w 1 0 = false from hg]; rfl)
          repeat clear H
          have H := HH
          clear HH
          by_cases cc : CfgOk (w.cf 0).a (w.cf 0).b (w.cf 0).c (w.cf 0).d
          · have hcf : cfB w 0 = true := decide_eq_true cc
            refine CallK.mono (new_ok_call _ _ _ _ _ cc) ?_
            rintro _ h10 ⟨q, Tq, rfl, kq, hqs, hqc⟩
            have hq : ∀ z ∈ Y, z.1 ≠ q := mss_lt (H.get 9 rfl) hqs
            have H2 := Hp.mss_new (m := MS.start (w.cf 0).a (w.cf 0).b (w.cf 0).c (w.cf 0).d) H 9 rfl kq hqs hqc
            have HH : Hp h0 _ (pjB g g2 g6 g7 bR bV bM w (wbox w A0 A1 A2 D0 D1 D2 a0c a1c a2c d0c d1c d2c) (.slice none 0 0) (othF 0) 0 0 0 0 [] V1 M B1 X 1 Z ((q, (MS.start (w.cf 0).a (w.cf 0).b (w.cf 0).c (w.cf 0).d)) :: Y)) := H2
            repeat clear H; clear H2
            have H := HH
            clear HH
            clear kq
            conv => whnf
            repeat ((first | refine Hp.ld H 6 rfl rfl ?_ | refine iteT (by omega) ?_ | refine iteF (by omega) ?_ | refine iteET (by omega) ?_ | refine iteEF (by omega) ?_ | refine iteNT (by omega) ?_ | refine iteNF (by omega) ?_ | refine WrapK.i64 (by omega) (by omega) ?_ | refine Drawn.mk (by kernel_rfl) ?_); conv => whnf)
            have HH : Hp h0 _ (Res.pol g (.slice none 0 0) (othF 0) bR bV bM 0 0 0 0 :: Res.mp pI Rul.enc bR [] :: Res.mp pI Vlv.enc bV V1 :: Res.mp pI ptrV bM M :: Res.mss X :: Res.bag B1 :: Res.ob g2 (.cells ((wbox w A0 A1 A2 D0 D1 D2 a0c a1c a2c d0c d1c d2c) : List Value).toArray 35 (0, 0)) :: Res.ob g6 (.cells ([.bool (gB w 1 0), .bool (gB w 1 1), .bool (gB w 1 2)] : List Value).toArray 40 (0, 0)) :: Res.ob g7 (.cells ([ptq Z 0, ptq Z 1, ptq Z 2] : List Value).toArray 42 (0, 0)) :: Res.mss ((q, (MS.start (w.cf 0).a (w.cf 0).b (w.cf 0).c (w.cf 0).d)) :: Y) :: []) := Hp.order H 10 [0, 1, 2, 3, 5, 4, 6, 7, 8, 9] (by decide) rfl
            repeat clear H
            have H := HH
            clear HH
            refine CallK.mono (setmeter_call H 0 _ _ _ _) ?_
            rintro _ h11 ⟨e, M1, X1, hr, rfl, P⟩
            have hr2 := setm_ok hr (by omega) (by omega) cc
            obtain ⟨rfl, b1, hb1, rfl, rfl⟩ := hr2
            have mz1 := mz.good hcf hb1 hq
            repeat clear H
            have H := P
            clear P
            have HH : Hp h0 _ (pjB g g2 g6 g7 bR bV bM w (wbox w A0 A1 A2 D0 D1 D2 a0c a1c a2c d0c d1c d2c) (.slice none 0 0) (othF 0) 0 0 0 0 [] V1 (mput 0 b1 M) B1 ((b1, (MS.start (w.cf 0).a (w.cf 0).b (w.cf 0).c (w.cf 0).d)) :: X) 1 Z ((q, (MS.start (w.cf 0).a (w.cf 0).b (w.cf 0).c (w.cf 0).d)) :: Y)) := Hp.order H 10 [0, 1, 2, 3, 5, 4, 6, 7, 8, 9] (by decide) rfl
            repeat clear H
            have H := HH
            clear HH
            conv => whnf
            repeat ((first | (refine Hp.st H 8 rfl rfl rfl rfl rfl ?_; intro h H) | refine iteT (by omega) ?_ | refine iteF (by omega) ?_ | refine iteET (by omega) ?_ | refine iteEF (by omega) ?_ | refine iteNT (by omega) ?_ | refine iteNF (by omega) ?_ | refine WrapK.i64 (by omega) (by omega) ?_ | refine Drawn.mk (by kernel_rfl) ?_); conv => whnf)
            have HH : Hp h0 _ (pjB g g2 g6 g7 bR bV bM w (wbox w A0 A1 A2 D0 D1 D2 a0c a1c a2c d0c d1c d2c) (.slice none 0 0) (othF 0) 0 0 0 0 [] V1 (mput 0 b1 M) B1 ((b1, (MS.start (w.cf 0).a (w.cf 0).b (w.cf 0).c (w.cf 0).d)) :: X) 1 (⟨0, b1, q, (MS.start (w.cf 0).a (w.cf 0).b (w.cf 0).c (w.cf 0).d)⟩ :: Z) ((q, (MS.start (w.cf 0).a (w.cf 0).b (w.cf 0).c (w.cf 0).d)) :: Y)) := H
            repeat clear H
            have H := HH
            clear HH
            exact ⟨(1, (V1, (mput 0 b1 M), B1), (((b1, (MS.start (w.cf 0).a (w.cf 0).b (w.cf 0).c (w.cf 0).d)) :: X), ((q, (MS.start (w.cf 0).a (w.cf 0).b (w.cf 0).c (w.cf 0).d)) :: Y), (⟨0, b1, q, (MS.start (w.cf 0).a (w.cf 0).b (w.cf 0).c (w.cf 0).d)⟩ :: Z))), ⟨(by first | rfl | (show Value.int .i64 _ = _; congr 1; omega) | (show Value.int .i64 _ = _; rw [wrap64_id (by omega) (by omega)]; first | rfl | (congr 1; omega))), trivial⟩, (by repeat (first | exact trivial | refine ⟨rfl, ?_⟩)), ⟨by show 1 ≤ 3; omega, gs1, mz1, H⟩, by show 3 - 1 < 3 - 0; omega⟩
          · have hcf : cfB w 0 = false := decide_eq_false cc
            refine CallK.mono (new_bad_call _ _ _ _ _ cc) ?_
            rintro _ h10 ⟨rfl, kq⟩
            replace H := H.and kq
            clear kq
            conv => whnf
            repeat ((first | refine Hp.ld H 6 rfl rfl ?_ | refine iteT (by omega) ?_ | refine iteF (by omega) ?_ | refine iteET (by omega) ?_ | refine iteEF (by omega) ?_ | refine iteNT (by omega) ?_ | refine iteNF (by omega) ?_ | refine WrapK.i64 (by omega) (by omega) ?_ | refine Drawn.mk (by kernel_rfl) ?_); conv => whnf)
            have HH : Hp h0 _ (Res.pol g (.slice none 0 0) (othF 0) bR bV bM 0 0 0 0 :: Res.mp pI Rul.enc bR [] :: Res.mp pI Vlv.enc bV V1 :: Res.mp pI ptrV bM M :: Res.mss X :: Res.bag B1 :: Res.ob g2 (.cells ((wbox w A0 A1 A2 D0 D1 D2 a0c a1c a2c d0c d1c d2c) : List Value).toArray 35 (0, 0)) :: Res.ob g6 (.cells ([.bool (gB w 1 0), .bool (gB w 1 1), .bool (gB w 1 2)] : List Value).toArray 40 (0, 0)) :: Res.ob g7 (.cells ([ptq Z 0, ptq Z 1, ptq Z 2] : List Value).toArray 42 (0, 0)) :: Res.mss Y :: []) := Hp.order H 10 [0, 1, 2, 3, 5, 4, 6, 7, 8, 9] (by decide) rfl
            repeat clear H
            have H := HH
            clear HH
            refine CallK.mono (setmeter_call H 0 _ _ _ _) ?_
            rintro _ h11 ⟨e, M1, X1, hr, rfl, P⟩
            have hr2 := setm_bad hr (by omega) (by omega) cc
            obtain ⟨rfl, rfl, rfl⟩ := hr2
            have mz1 := mz.bad hcf
            repeat clear H
            have H := P
            clear P
            have HH : Hp h0 _ (pjB g g2 g6 g7 bR bV bM w (wbox w A0 A1 A2 D0 D1 D2 a0c a1c a2c d0c d1c d2c) (.slice none 0 0) (othF 0) 0 0 0 0 [] V1 M1 B1 X1 1 Z Y) := Hp.order H 10 [0, 1, 2, 3, 5, 4, 6, 7, 8, 9] (by decide) rfl
            repeat clear H
            have H := HH
            clear HH
            conv => whnf
            repeat ((first | (refine Hp.st H 8 rfl rfl rfl rfl rfl ?_; intro h H) | refine iteT (by omega) ?_ | refine iteF (by omega) ?_ | refine iteET (by omega) ?_ | refine iteEF (by omega) ?_ | refine iteNT (by omega) ?_ | refine iteNF (by omega) ?_ | refine WrapK.i64 (by omega) (by omega) ?_ | refine Drawn.mk (by kernel_rfl) ?_); conv => whnf)
            have HH : Hp h0 _ (pjB g g2 g6 g7 bR bV bM w (wbox w A0 A1 A2 D0 D1 D2 a0c a1c a2c d0c d1c d2c) (.slice none 0 0) (othF 0) 0 0 0 0 [] V1 M1 B1 X1 1 Z Y) := Hp.eqs H (by unfold pjB; rw [ptq_no (fun z hz => by have := (mz.yes z hz).1; omega : ∀ z ∈ Z, z.n ≠ 0)]; rfl)
            repeat clear H
            have H := HH
            clear HH
            exact ⟨(1, (V1, M1, B1), (X1, Y, Z)), ⟨(by first | rfl | (show Value.int .i64 _ = _; congr 1; omega) | (show Value.int .i64 _ = _; rw [wrap64_id (by omega) (by omega)]; first | rfl | (congr 1; omega))), trivial⟩, (by repeat (first | exact trivial | refine ⟨rfl, ?_⟩)), ⟨by show 1 ≤ 3; omega, gs1, mz1, H⟩, by show 3 - 1 < 3 - 0; omega⟩
      · rw [check_no w1] at ev
        subst ev
        conv => whnf
        repeat ((first | refine Hp.ld H 6 rfl rfl ?_ | (refine Hp.st H 7 rfl rfl rfl rfl rfl ?_; intro h H) | (refine Hp.st H 8 rfl rfl rfl rfl rfl ?_; intro h H) | refine iteT (by omega) ?_ | refine iteF (by omega) ?_ | refine iteET (by omega) ?_ | refine iteEF (by omega) ?_ | refine iteNT (by omega) ?_ | refine iteNF (by omega) ?_ | refine WrapK.i64 (by omega) (by omega) ?_ | refine Drawn.mk (by kernel_rfl) ?_); conv => whnf)
        refine ⟨Nat × Bool, [0, 1, 2, 4, 5, 6, 7, 8, 12, 13, 14, 15, 16, 17, 18, 19, 20, 21, 23, 24, 25, 26, 27, 28, 30, 33, 35, 36, 52, 76, 77, 114, 135, 142, 143, 144, 156, 165, 166, 191, 192, 230, 232, 233, 234, 235, 257, 269, 272, 279, 284, 292, 293, 296, 299, 311, 345], fun q => [(78, .int .i64 (q.1 : Nat)), (9, .bool false)], fun q h' => q.1 ≤ (w.gc 0).length ∧ Hp h0 h' (pjB g g2 g6 g7 bR bV bM w (wbox w A0 A1 A2 D0 D1 D2 a0c a1c a2c d0c d1c d2c) (.slice none 0 0) (othF 0) 0 0 0 0 [] V M B X 0 Z Y), fun q => (w.gc 0).length - q.1, ?_⟩
        conv => whnf
        refine ⟨⟨(0, true), ⟨rfl, rfl, trivial⟩, by show 0 ≤ _; omega, H⟩, ?_⟩
        clear H
        rintro ⟨j, b⟩ h8 ⟨jA, H⟩
        dsimp only at jA H ⊢
        by_cases cj : j < (w.gc 0).length
        · have hX := list_at (L := w.gc 0) (i := j) cj
          obtain ⟨c, hc⟩ := hX
          have hX := (RowsV.keep hz0 H.keep).some (by omega)
          obtain ⟨cb, co, hD⟩ := hX
          subst hD
          have hzj : IntsV h8 (.slice (some ⟨cb, co, none⟩) (w.gc 0).length d0c) (w.gc 0) := RowsV.keep hz0 H.keep
          conv => whnf
          repeat ((first | refine iteT (by omega) ?_ | refine iteF (by omega) ?_ | refine iteET (by omega) ?_ | refine iteEF (by omega) ?_ | refine iteNT (by omega) ?_ | refine iteNF (by omega) ?_ | refine WrapK.i64 (by omega) (by omega) ?_ | refine Drawn.mk (by kernel_rfl) ?_); conv => whnf)
          refine int_ld hzj hc rfl rfl rfl (by first | omega | (simp; done) | (simp; omega)) ?_
          conv => whnf
          repeat ((first | refine iteT (by omega) ?_ | refine iteF (by omega) ?_ | refine iteET (by omega) ?_ | refine iteEF (by omega) ?_ | refine iteNT (by omega) ?_ | refine iteNF (by omega) ?_ | refine WrapK.i64 (by omega) (by omega) ?_ | refine Drawn.mk (by kernel_rfl) ?_); conv => whnf)
          exact ⟨(j + 1, b), ⟨(by first | rfl | (show Value.int .i64 _ = _; congr 1; omega) | (show Value.int .i64 _ = _; rw [wrap64_id (by omega) (by omega)]; first | rfl | (congr 1; omega))), rfl, trivial⟩, (by repeat (first | exact trivial | refine ⟨rfl, ?_⟩)), ⟨by show j + 1 ≤ _; omega, H⟩, by show _ - (j + 1) < _ - j; omega⟩
        have e : j = (w.gc 0).length := by omega
        subst e
        have hg : goodB w 0 = false := by
          rw [Bool.eq_false_iff]
          exact (fun e => absurd (goodB_true.1 e).1 w1)
        conv => whnf
        repeat ((first | refine Hp.ld H 6 rfl rfl ?_ | refine iteT (by omega) ?_ | refine iteF (by omega) ?_ | refine iteET (by omega) ?_ | refine iteEF (by omega) ?_ | refine iteNT (by omega) ?_ | refine iteNF (by omega) ?_ | refine WrapK.i64 (by omega) (by omega) ?_ | refine Drawn.mk (by kernel_rfl) ?_); conv => whnf)
        refine CallK.mono (setgate_call H 0 (w.gl 0) _ _ (w.gc 0) (EntsV.keep he0 H.keep) (RowsV.keep hz0 H.keep) (by omega) (by omega)) ?_
        rintro _ h9 ⟨e, V1, B1, hr, rfl, P⟩
        have hr2 := gs.bad (by omega) hr hg
        obtain ⟨rfl, rfl, rfl, gs1⟩ := hr2
        clear hr H
        have H := P
        clear P
        conv => whnf
        repeat ((first | refine Hp.ld H 6 rfl rfl ?_ | (refine Hp.st H 7 rfl rfl rfl rfl rfl ?_; intro h H) | refine iteT (by omega) ?_ | refine iteF (by omega) ?_ | refine iteET (by omega) ?_ | refine iteEF (by omega) ?_ | refine iteNT (by omega) ?_ | refine iteNF (by omega) ?_ | refine WrapK.i64 (by omega) (by omega) ?_ | refine Drawn.mk (by kernel_rfl) ?_); conv => whnf)
        have HH : Hp h0 _ (pjB g g2 g6 g7 bR bV bM w (wbox w A0 A1 A2 D0 D1 D2 a0c a1c a2c d0c d1c d2c) (.slice none 0 0) (othF 0) 0 0 0 0 [] V1 M B1 X 1 Z Y) := Hp.eqs H (by unfold pjB; rw [show gB w 1 0 = false from hg]; rfl)
        repeat clear H
        have H := HH
        clear HH
        by_cases cc : CfgOk (w.cf 0).a (w.cf 0).b (w.cf 0).c (w.cf 0).d
        · have hcf : cfB w 0 = true := decide_eq_true cc
          refine CallK.mono (new_ok_call _ _ _ _ _ cc) ?_
          rintro _ h10 ⟨q, Tq, rfl, kq, hqs, hqc⟩
          have hq : ∀ z ∈ Y, z.1 ≠ q := mss_lt (H.get 9 rfl) hqs
          have H2 := Hp.mss_new (m := MS.start (w.cf 0).a (w.cf 0).b (w.cf 0).c (w.cf 0).d) H 9 rfl kq hqs hqc
          have HH : Hp h0 _ (pjB g g2 g6 g7 bR bV bM w (wbox w A0 A1 A2 D0 D1 D2 a0c a1c a2c d0c d1c d2c) (.slice none 0 0) (othF 0) 0 0 0 0 [] V1 M B1 X 1 Z ((q, (MS.start (w.cf 0).a (w.cf 0).b (w.cf 0).c (w.cf 0).d)) :: Y)) := H2
          repeat clear H; clear H2
          have H := HH
          clear HH
          clear kq
          conv => whnf
          repeat ((first | refine Hp.ld H 6 rfl rfl ?_ | refine iteT (by omega) ?_ | refine iteF (by omega) ?_ | refine iteET (by omega) ?_ | refine iteEF (by omega) ?_ | refine iteNT (by omega) ?_ | refine iteNF (by omega) ?_ | refine WrapK.i64 (by omega) (by omega) ?_ | refine Drawn.mk (by kernel_rfl) ?_); conv => whnf)
          have HH : Hp h0 _ (Res.pol g (.slice none 0 0) (othF 0) bR bV bM 0 0 0 0 :: Res.mp pI Rul.enc bR [] :: Res.mp pI Vlv.enc bV V1 :: Res.mp pI ptrV bM M :: Res.mss X :: Res.bag B1 :: Res.ob g2 (.cells ((wbox w A0 A1 A2 D0 D1 D2 a0c a1c a2c d0c d1c d2c) : List Value).toArray 35 (0, 0)) :: Res.ob g6 (.cells ([.bool (gB w 1 0), .bool (gB w 1 1), .bool (gB w 1 2)] : List Value).toArray 40 (0, 0)) :: Res.ob g7 (.cells ([ptq Z 0, ptq Z 1, ptq Z 2] : List Value).toArray 42 (0, 0)) :: Res.mss ((q, (MS.start (w.cf 0).a (w.cf 0).b (w.cf 0).c (w.cf 0).d)) :: Y) :: []) := Hp.order H 10 [0, 1, 2, 3, 5, 4, 6, 7, 8, 9] (by decide) rfl
          repeat clear H
          have H := HH
          clear HH
          refine CallK.mono (setmeter_call H 0 _ _ _ _) ?_
          rintro _ h11 ⟨e, M1, X1, hr, rfl, P⟩
          have hr2 := setm_ok hr (by omega) (by omega) cc
          obtain ⟨rfl, b1, hb1, rfl, rfl⟩ := hr2
          have mz1 := mz.good hcf hb1 hq
          repeat clear H
          have H := P
          clear P
          have HH : Hp h0 _ (pjB g g2 g6 g7 bR bV bM w (wbox w A0 A1 A2 D0 D1 D2 a0c a1c a2c d0c d1c d2c) (.slice none 0 0) (othF 0) 0 0 0 0 [] V1 (mput 0 b1 M) B1 ((b1, (MS.start (w.cf 0).a (w.cf 0).b (w.cf 0).c (w.cf 0).d)) :: X) 1 Z ((q, (MS.start (w.cf 0).a (w.cf 0).b (w.cf 0).c (w.cf 0).d)) :: Y)) := Hp.order H 10 [0, 1, 2, 3, 5, 4, 6, 7, 8, 9] (by decide) rfl
          repeat clear H
          have H := HH
          clear HH
          conv => whnf
          repeat ((first | (refine Hp.st H 8 rfl rfl rfl rfl rfl ?_; intro h H) | refine iteT (by omega) ?_ | refine iteF (by omega) ?_ | refine iteET (by omega) ?_ | refine iteEF (by omega) ?_ | refine iteNT (by omega) ?_ | refine iteNF (by omega) ?_ | refine WrapK.i64 (by omega) (by omega) ?_ | refine Drawn.mk (by kernel_rfl) ?_); conv => whnf)
          have HH : Hp h0 _ (pjB g g2 g6 g7 bR bV bM w (wbox w A0 A1 A2 D0 D1 D2 a0c a1c a2c d0c d1c d2c) (.slice none 0 0) (othF 0) 0 0 0 0 [] V1 (mput 0 b1 M) B1 ((b1, (MS.start (w.cf 0).a (w.cf 0).b (w.cf 0).c (w.cf 0).d)) :: X) 1 (⟨0, b1, q, (MS.start (w.cf 0).a (w.cf 0).b (w.cf 0).c (w.cf 0).d)⟩ :: Z) ((q, (MS.start (w.cf 0).a (w.cf 0).b (w.cf 0).c (w.cf 0).d)) :: Y)) := H
          repeat clear H
          have H := HH
          clear HH
          exact ⟨(1, (V1, (mput 0 b1 M), B1), (((b1, (MS.start (w.cf 0).a (w.cf 0).b (w.cf 0).c (w.cf 0).d)) :: X), ((q, (MS.start (w.cf 0).a (w.cf 0).b (w.cf 0).c (w.cf 0).d)) :: Y), (⟨0, b1, q, (MS.start (w.cf 0).a (w.cf 0).b (w.cf 0).c (w.cf 0).d)⟩ :: Z))), ⟨(by first | rfl | (show Value.int .i64 _ = _; congr 1; omega) | (show Value.int .i64 _ = _; rw [wrap64_id (by omega) (by omega)]; first | rfl | (congr 1; omega))), trivial⟩, (by repeat (first | exact trivial | refine ⟨rfl, ?_⟩)), ⟨by show 1 ≤ 3; omega, gs1, mz1, H⟩, by show 3 - 1 < 3 - 0; omega⟩
        · have hcf : cfB w 0 = false := decide_eq_false cc
          refine CallK.mono (new_bad_call _ _ _ _ _ cc) ?_
          rintro _ h10 ⟨rfl, kq⟩
          replace H := H.and kq
          clear kq
          conv => whnf
          repeat ((first | refine Hp.ld H 6 rfl rfl ?_ | refine iteT (by omega) ?_ | refine iteF (by omega) ?_ | refine iteET (by omega) ?_ | refine iteEF (by omega) ?_ | refine iteNT (by omega) ?_ | refine iteNF (by omega) ?_ | refine WrapK.i64 (by omega) (by omega) ?_ | refine Drawn.mk (by kernel_rfl) ?_); conv => whnf)
          have HH : Hp h0 _ (Res.pol g (.slice none 0 0) (othF 0) bR bV bM 0 0 0 0 :: Res.mp pI Rul.enc bR [] :: Res.mp pI Vlv.enc bV V1 :: Res.mp pI ptrV bM M :: Res.mss X :: Res.bag B1 :: Res.ob g2 (.cells ((wbox w A0 A1 A2 D0 D1 D2 a0c a1c a2c d0c d1c d2c) : List Value).toArray 35 (0, 0)) :: Res.ob g6 (.cells ([.bool (gB w 1 0), .bool (gB w 1 1), .bool (gB w 1 2)] : List Value).toArray 40 (0, 0)) :: Res.ob g7 (.cells ([ptq Z 0, ptq Z 1, ptq Z 2] : List Value).toArray 42 (0, 0)) :: Res.mss Y :: []) := Hp.order H 10 [0, 1, 2, 3, 5, 4, 6, 7, 8, 9] (by decide) rfl
          repeat clear H
          have H := HH
          clear HH
          refine CallK.mono (setmeter_call H 0 _ _ _ _) ?_
          rintro _ h11 ⟨e, M1, X1, hr, rfl, P⟩
          have hr2 := setm_bad hr (by omega) (by omega) cc
          obtain ⟨rfl, rfl, rfl⟩ := hr2
          have mz1 := mz.bad hcf
          repeat clear H
          have H := P
          clear P
          have HH : Hp h0 _ (pjB g g2 g6 g7 bR bV bM w (wbox w A0 A1 A2 D0 D1 D2 a0c a1c a2c d0c d1c d2c) (.slice none 0 0) (othF 0) 0 0 0 0 [] V1 M1 B1 X1 1 Z Y) := Hp.order H 10 [0, 1, 2, 3, 5, 4, 6, 7, 8, 9] (by decide) rfl
          repeat clear H
          have H := HH
          clear HH
          conv => whnf
          repeat ((first | (refine Hp.st H 8 rfl rfl rfl rfl rfl ?_; intro h H) | refine iteT (by omega) ?_ | refine iteF (by omega) ?_ | refine iteET (by omega) ?_ | refine iteEF (by omega) ?_ | refine iteNT (by omega) ?_ | refine iteNF (by omega) ?_ | refine WrapK.i64 (by omega) (by omega) ?_ | refine Drawn.mk (by kernel_rfl) ?_); conv => whnf)
          have HH : Hp h0 _ (pjB g g2 g6 g7 bR bV bM w (wbox w A0 A1 A2 D0 D1 D2 a0c a1c a2c d0c d1c d2c) (.slice none 0 0) (othF 0) 0 0 0 0 [] V1 M1 B1 X1 1 Z Y) := Hp.eqs H (by unfold pjB; rw [ptq_no (fun z hz => by have := (mz.yes z hz).1; omega : ∀ z ∈ Z, z.n ≠ 0)]; rfl)
          repeat clear H
          have H := HH
          clear HH
          exact ⟨(1, (V1, M1, B1), (X1, Y, Z)), ⟨(by first | rfl | (show Value.int .i64 _ = _; congr 1; omega) | (show Value.int .i64 _ = _; rw [wrap64_id (by omega) (by omega)]; first | rfl | (congr 1; omega))), trivial⟩, (by repeat (first | exact trivial | refine ⟨rfl, ?_⟩)), ⟨by show 1 ≤ 3; omega, gs1, mz1, H⟩, by show 3 - 1 < 3 - 0; omega⟩
    · conv => whnf
      repeat ((first | refine Hp.ld H 6 rfl rfl ?_ | (refine Hp.st H 7 rfl rfl rfl rfl rfl ?_; intro h H) | (refine Hp.st H 8 rfl rfl rfl rfl rfl ?_; intro h H) | refine iteT (by omega) ?_ | refine iteF (by omega) ?_ | refine iteET (by omega) ?_ | refine iteEF (by omega) ?_ | refine iteNT (by omega) ?_ | refine iteNF (by omega) ?_ | refine WrapK.i64 (by omega) (by omega) ?_ | refine Drawn.mk (by kernel_rfl) ?_); conv => whnf)
      by_cases q1 : ((w.gl 1).es.length : Int) > 70
      · conv => whnf
        repeat ((first | refine Hp.ld H 6 rfl rfl ?_ | (refine Hp.st H 7 rfl rfl rfl rfl rfl ?_; intro h H) | (refine Hp.st H 8 rfl rfl rfl rfl rfl ?_; intro h H) | refine iteT (by omega) ?_ | refine iteF (by omega) ?_ | refine iteET (by omega) ?_ | refine iteEF (by omega) ?_ | refine iteNT (by omega) ?_ | refine iteNF (by omega) ?_ | refine WrapK.i64 (by omega) (by omega) ?_ | refine Drawn.mk (by kernel_rfl) ?_); conv => whnf)
        exact ⟨rfl, H.keep⟩
      by_cases q2 : ((w.gc 1).length : Int) > 70
      · conv => whnf
        repeat ((first | refine Hp.ld H 6 rfl rfl ?_ | (refine Hp.st H 7 rfl rfl rfl rfl rfl ?_; intro h H) | (refine Hp.st H 8 rfl rfl rfl rfl rfl ?_; intro h H) | refine iteT (by omega) ?_ | refine iteF (by omega) ?_ | refine iteET (by omega) ?_ | refine iteEF (by omega) ?_ | refine iteNT (by omega) ?_ | refine iteNF (by omega) ?_ | refine WrapK.i64 (by omega) (by omega) ?_ | refine Drawn.mk (by kernel_rfl) ?_); conv => whnf)
        exact ⟨rfl, H.keep⟩
      conv => whnf
      repeat ((first | refine Hp.ld H 6 rfl rfl ?_ | (refine Hp.st H 7 rfl rfl rfl rfl rfl ?_; intro h H) | (refine Hp.st H 8 rfl rfl rfl rfl rfl ?_; intro h H) | refine iteT (by omega) ?_ | refine iteF (by omega) ?_ | refine iteET (by omega) ?_ | refine iteEF (by omega) ?_ | refine iteNT (by omega) ?_ | refine iteNF (by omega) ?_ | refine WrapK.i64 (by omega) (by omega) ?_ | refine Drawn.mk (by kernel_rfl) ?_); conv => whnf)
      refine CallK.mono (gcheck_call _ (w.gl 1) _ (EntsV.keep he1 H.keep) (by omega)) ?_
      rintro v h7 ⟨kq, ev⟩
      replace H := H.and kq
      clear kq
      by_cases w1 : (w.gl 1).check = 0
      · rw [w1] at ev
        subst ev
        conv => whnf
        repeat ((first | refine Hp.ld H 6 rfl rfl ?_ | (refine Hp.st H 7 rfl rfl rfl rfl rfl ?_; intro h H) | (refine Hp.st H 8 rfl rfl rfl rfl rfl ?_; intro h H) | refine iteT (by omega) ?_ | refine iteF (by omega) ?_ | refine iteET (by omega) ?_ | refine iteEF (by omega) ?_ | refine iteNT (by omega) ?_ | refine iteNF (by omega) ?_ | refine WrapK.i64 (by omega) (by omega) ?_ | refine Drawn.mk (by kernel_rfl) ?_); conv => whnf)
        by_cases w2 : (w.gc 1).length = (w.gl 1).es.length
        · conv => whnf
          repeat ((first | refine Hp.ld H 6 rfl rfl ?_ | (refine Hp.st H 7 rfl rfl rfl rfl rfl ?_; intro h H) | (refine Hp.st H 8 rfl rfl rfl rfl rfl ?_; intro h H) | refine iteT (by omega) ?_ | refine iteF (by omega) ?_ | refine iteET (by omega) ?_ | refine iteEF (by omega) ?_ | refine iteNT (by omega) ?_ | refine iteNF (by omega) ?_ | refine WrapK.i64 (by omega) (by omega) ?_ | refine Drawn.mk (by kernel_rfl) ?_); conv => whnf)
          refine ⟨Nat × Bool, [0, 1, 2, 4, 5, 6, 7, 8, 12, 13, 14, 15, 16, 17, 18, 19, 20, 21, 23, 24, 25, 26, 27, 28, 30, 33, 35, 36, 52, 76, 77, 114, 135, 142, 143, 144, 156, 165, 166, 191, 192, 230, 232, 233, 234, 235, 257, 269, 272, 279, 284, 292, 293, 296, 299, 311, 345], fun q => [(78, .int .i64 (q.1 : Nat)), (9, .bool q.2)], fun q h' => q.1 ≤ (w.gc 1).length ∧ q.2 = (!((w.gc 1).take q.1).any cbad) ∧ Hp h0 h' (pjB g g2 g6 g7 bR bV bM w (wbox w A0 A1 A2 D0 D1 D2 a0c a1c a2c d0c d1c d2c) (.slice none 0 0) (othF 0) 0 0 0 0 [] V M B X 1 Z Y), fun q => (w.gc 1).length - q.1, ?_⟩
          conv => whnf
          refine ⟨⟨(0, true), ⟨rfl, (by rw [w2, beq_self_eq_true]; rfl), trivial⟩, by show 0 ≤ _; omega, rfl, H⟩, ?_⟩
          clear H
          rintro ⟨j, b⟩ h8 ⟨jA, hb, H⟩
          dsimp only at jA hb H ⊢
          by_cases cj : j < (w.gc 1).length
          · have hX := list_at (L := w.gc 1) (i := j) cj
            obtain ⟨c, hc⟩ := hX
            have hX := (RowsV.keep hz1 H.keep).some (by omega)
            obtain ⟨cb, co, hD⟩ := hX
            subst hD
            have hzj : IntsV h8 (.slice (some ⟨cb, co, none⟩) (w.gc 1).length d1c) (w.gc 1) := RowsV.keep hz1 H.keep
            conv => whnf
            repeat ((first | refine iteT (by omega) ?_ | refine iteF (by omega) ?_ | refine iteET (by omega) ?_ | refine iteEF (by omega) ?_ | refine iteNT (by omega) ?_ | refine iteNF (by omega) ?_ | refine WrapK.i64 (by omega) (by omega) ?_ | refine Drawn.mk (by kernel_rfl) ?_); conv => whnf)
            refine int_ld hzj hc rfl rfl rfl (by first | omega | (simp; done) | (simp; omega)) ?_
            have hs : (!((w.gc 1).take (j + 1)).any cbad) = (b && !(cbad c)) := by rw [hb, take_any hc, Bool.not_or]
            rcases b with _ | _
            · conv => whnf
              repeat ((first | refine iteT (by omega) ?_ | refine iteF (by omega) ?_ | refine iteET (by omega) ?_ | refine iteEF (by omega) ?_ | refine iteNT (by omega) ?_ | refine iteNF (by omega) ?_ | refine WrapK.i64 (by omega) (by omega) ?_ | refine Drawn.mk (by kernel_rfl) ?_); conv => whnf)
              exact ⟨(j + 1, false), ⟨(by first | rfl | (show Value.int .i64 _ = _; congr 1; omega) | (show Value.int .i64 _ = _; rw [wrap64_id (by omega) (by omega)]; first | rfl | (congr 1; omega))), rfl, trivial⟩, (by repeat (first | exact trivial | refine ⟨rfl, ?_⟩)), ⟨by show j + 1 ≤ _; omega, hs.symm, H⟩, by show _ - (j + 1) < _ - j; omega⟩
            by_cases d1 : c ≥ -1
            · by_cases d2 : c ≤ 7
              · conv => whnf
                repeat ((first | refine iteT (by omega) ?_ | refine iteF (by omega) ?_ | refine iteET (by omega) ?_ | refine iteEF (by omega) ?_ | refine iteNT (by omega) ?_ | refine iteNF (by omega) ?_ | refine WrapK.i64 (by omega) (by omega) ?_ | refine Drawn.mk (by kernel_rfl) ?_); conv => whnf)
                exact ⟨(j + 1, true), ⟨(by first | rfl | (show Value.int .i64 _ = _; congr 1; omega) | (show Value.int .i64 _ = _; rw [wrap64_id (by omega) (by omega)]; first | rfl | (congr 1; omega))), (by first | rfl | (simp [d2]; rfl)), trivial⟩, (by repeat (first | exact trivial | refine ⟨rfl, ?_⟩)), ⟨by show j + 1 ≤ _; omega, by show _ = _; rw [hs]; unfold cbad; simp; omega, H⟩, by show _ - (j + 1) < _ - j; omega⟩
              · conv => whnf
                repeat ((first | refine iteT (by omega) ?_ | refine iteF (by omega) ?_ | refine iteET (by omega) ?_ | refine iteEF (by omega) ?_ | refine iteNT (by omega) ?_ | refine iteNF (by omega) ?_ | refine WrapK.i64 (by omega) (by omega) ?_ | refine Drawn.mk (by kernel_rfl) ?_); conv => whnf)
                exact ⟨(j + 1, false), ⟨(by first | rfl | (show Value.int .i64 _ = _; congr 1; omega) | (show Value.int .i64 _ = _; rw [wrap64_id (by omega) (by omega)]; first | rfl | (congr 1; omega))), (by first | rfl | (simp [d2]; rfl)), trivial⟩, (by repeat (first | exact trivial | refine ⟨rfl, ?_⟩)), ⟨by show j + 1 ≤ _; omega, by show _ = _; rw [hs]; unfold cbad; simp; omega, H⟩, by show _ - (j + 1) < _ - j; omega⟩
            · conv => whnf
              repeat ((first | refine iteT (by omega) ?_ | refine iteF (by omega) ?_ | refine iteET (by omega) ?_ | refine iteEF (by omega) ?_ | refine iteNT (by omega) ?_ | refine iteNF (by omega) ?_ | refine WrapK.i64 (by omega) (by omega) ?_ | refine Drawn.mk (by kernel_rfl) ?_); conv => whnf)
              exact ⟨(j + 1, false), ⟨(by first | rfl | (show Value.int .i64 _ = _; congr 1; omega) | (show Value.int .i64 _ = _; rw [wrap64_id (by omega) (by omega)]; first | rfl | (congr 1; omega))), (by first | rfl | (simp [d2]; rfl)), trivial⟩, (by repeat (first | exact trivial | refine ⟨rfl, ?_⟩)), ⟨by show j + 1 ≤ _; omega, by show _ = _; rw [hs]; unfold cbad; simp; omega, H⟩, by show _ - (j + 1) < _ - j; omega⟩
          have e : j = (w.gc 1).length := by omega
          subst e
          rw [List.take_length] at hb
          rcases b with _ | _
          · have hg : goodB w 1 = false := by
              rw [Bool.eq_false_iff]
              intro e
              rw [(goodB_true.1 e).2.2] at hb
              cases hb
            conv => whnf
            repeat ((first | refine Hp.ld H 6 rfl rfl ?_ | refine iteT (by omega) ?_ | refine iteF (by omega) ?_ | refine iteET (by omega) ?_ | refine iteEF (by omega) ?_ | refine iteNT (by omega) ?_ | refine iteNF (by omega) ?_ | refine WrapK.i64 (by omega) (by omega) ?_ | refine Drawn.mk (by kernel_rfl) ?_); conv => whnf)
            refine CallK.mono (setgate_call H 1 (w.gl 1) _ _ (w.gc 1) (EntsV.keep he1 H.keep) (RowsV.keep hz1 H.keep) (by omega) (by omega)) ?_
            rintro _ h9 ⟨e, V1, B1, hr, rfl, P⟩
            have hr2 := gs.bad (by omega) hr hg
            obtain ⟨rfl, rfl, rfl, gs1⟩ := hr2
            clear hr H
            have H := P
            clear P
            conv => whnf
            repeat ((first | refine Hp.ld H 6 rfl rfl ?_ | (refine Hp.st H 7 rfl rfl rfl rfl rfl ?_; intro h H) | refine iteT (by omega) ?_ | refine iteF (by omega) ?_ | refine iteET (by omega) ?_ | refine iteEF (by omega) ?_ | refine iteNT (by omega) ?_ | refine iteNF (by omega) ?_ | refine WrapK.i64 (by omega) (by omega) ?_ | refine Drawn.mk (by kernel_rfl) ?_); conv => whnf)
            have HH : Hp h0 _ (pjB g g2 g6 g7 bR bV bM w (wbox w A0 A1 A2 D0 D1 D2 a0c a1c a2c d0c d1c d2c) (.slice none 0 0) (othF 0) 0 0 0 0 [] V1 M B1 X 2 Z Y) := Hp.eqs H (by unfold pjB; rw [show gB w 2 1 = false from hg]; rfl)
            repeat clear H
            have H := HH
            clear HH
            by_cases cc : CfgOk (w.cf 1).a (w.cf 1).b (w.cf 1).c (w.cf 1).d
            · have hcf : cfB w 1 = true := decide_eq_true cc
              refine CallK.mono (new_ok_call _ _ _ _ _ cc) ?_
              rintro _ h10 ⟨q, Tq, rfl, kq, hqs, hqc⟩
              have hq : ∀ z ∈ Y, z.1 ≠ q := mss_lt (H.get 9 rfl) hqs
              have H2 := Hp.mss_new (m := MS.start (w.cf 1).a (w.cf 1).b (w.cf 1).c (w.cf 1).d) H 9 rfl kq hqs hqc
              have HH : Hp h0 _ (pjB g g2 g6 g7 bR bV bM w (wbox w A0 A1 A2 D0 D1 D2 a0c a1c a2c d0c d1c d2c) (.slice none 0 0) (othF 0) 0 0 0 0 [] V1 M B1 X 2 Z ((q, (MS.start (w.cf 1).a (w.cf 1).b (w.cf 1).c (w.cf 1).d)) :: Y)) := H2
              repeat clear H; clear H2
              have H := HH
              clear HH
              clear kq
              conv => whnf
              repeat ((first | refine Hp.ld H 6 rfl rfl ?_ | refine iteT (by omega) ?_ | refine iteF (by omega) ?_ | refine iteET (by omega) ?_ | refine iteEF (by omega) ?_ | refine iteNT (by omega) ?_ | refine iteNF (by omega) ?_ | refine WrapK.i64 (by omega) (by omega) ?_ | refine Drawn.mk (by kernel_rfl) ?_); conv => whnf)
              have HH : Hp h0 _ (Res.pol g (.slice none 0 0) (othF 0) bR bV bM 0 0 0 0 :: Res.mp pI Rul.enc bR [] :: Res.mp pI Vlv.enc bV V1 :: Res.mp pI ptrV bM M :: Res.mss X :: Res.bag B1 :: Res.ob g2 (.cells ((wbox w A0 A1 A2 D0 D1 D2 a0c a1c a2c d0c d1c d2c) : List Value).toArray 35 (0, 0)) :: Res.ob g6 (.cells ([.bool (gB w 2 0), .bool (gB w 2 1), .bool (gB w 2 2)] : List Value).toArray 40 (0, 0)) :: Res.ob g7 (.cells ([ptq Z 0, ptq Z 1, ptq Z 2] : List Value).toArray 42 (0, 0)) :: Res.mss ((q, (MS.start (w.cf 1).a (w.cf 1).b (w.cf 1).c (w.cf 1).d)) :: Y) :: []) := Hp.order H 10 [0, 1, 2, 3, 5, 4, 6, 7, 8, 9] (by decide) rfl
              repeat clear H
              have H := HH
              clear HH
              refine CallK.mono (setmeter_call H 1 _ _ _ _) ?_
              rintro _ h11 ⟨e, M1, X1, hr, rfl, P⟩
              have hr2 := setm_ok hr (by omega) (by omega) cc
              obtain ⟨rfl, b1, hb1, rfl, rfl⟩ := hr2
              have mz1 := mz.good hcf hb1 hq
              repeat clear H
              have H := P
              clear P
              have HH : Hp h0 _ (pjB g g2 g6 g7 bR bV bM w (wbox w A0 A1 A2 D0 D1 D2 a0c a1c a2c d0c d1c d2c) (.slice none 0 0) (othF 0) 0 0 0 0 [] V1 (mput 1 b1 M) B1 ((b1, (MS.start (w.cf 1).a (w.cf 1).b (w.cf 1).c (w.cf 1).d)) :: X) 2 Z ((q, (MS.start (w.cf 1).a (w.cf 1).b (w.cf 1).c (w.cf 1).d)) :: Y)) := Hp.order H 10 [0, 1, 2, 3, 5, 4, 6, 7, 8, 9] (by decide) rfl
              repeat clear H
              have H := HH
              clear HH
              conv => whnf
              repeat ((first | (refine Hp.st H 8 rfl rfl rfl rfl rfl ?_; intro h H) | refine iteT (by omega) ?_ | refine iteF (by omega) ?_ | refine iteET (by omega) ?_ | refine iteEF (by omega) ?_ | refine iteNT (by omega) ?_ | refine iteNF (by omega) ?_ | refine WrapK.i64 (by omega) (by omega) ?_ | refine Drawn.mk (by kernel_rfl) ?_); conv => whnf)
              have HH : Hp h0 _ (pjB g g2 g6 g7 bR bV bM w (wbox w A0 A1 A2 D0 D1 D2 a0c a1c a2c d0c d1c d2c) (.slice none 0 0) (othF 0) 0 0 0 0 [] V1 (mput 1 b1 M) B1 ((b1, (MS.start (w.cf 1).a (w.cf 1).b (w.cf 1).c (w.cf 1).d)) :: X) 2 (⟨1, b1, q, (MS.start (w.cf 1).a (w.cf 1).b (w.cf 1).c (w.cf 1).d)⟩ :: Z) ((q, (MS.start (w.cf 1).a (w.cf 1).b (w.cf 1).c (w.cf 1).d)) :: Y)) := H
              repeat clear H
              have H := HH
              clear HH
              exact ⟨(2, (V1, (mput 1 b1 M), B1), (((b1, (MS.start (w.cf 1).a (w.cf 1).b (w.cf 1).c (w.cf 1).d)) :: X), ((q, (MS.start (w.cf 1).a (w.cf 1).b (w.cf 1).c (w.cf 1).d)) :: Y), (⟨1, b1, q, (MS.start (w.cf 1).a (w.cf 1).b (w.cf 1).c (w.cf 1).d)⟩ :: Z))), ⟨(by first | rfl | (show Value.int .i64 _ = _; congr 1; omega) | (show Value.int .i64 _ = _; rw [wrap64_id (by omega) (by omega)]; first | rfl | (congr 1; omega))), trivial⟩, (by repeat (first | exact trivial | refine ⟨rfl, ?_⟩)), ⟨by show 2 ≤ 3; omega, gs1, mz1, H⟩, by show 3 - 2 < 3 - 1; omega⟩
            · have hcf : cfB w 1 = false := decide_eq_false cc
              refine CallK.mono (new_bad_call _ _ _ _ _ cc) ?_
              rintro _ h10 ⟨rfl, kq⟩
              replace H := H.and kq
              clear kq
              conv => whnf
              repeat ((first | refine Hp.ld H 6 rfl rfl ?_ | refine iteT (by omega) ?_ | refine iteF (by omega) ?_ | refine iteET (by omega) ?_ | refine iteEF (by omega) ?_ | refine iteNT (by omega) ?_ | refine iteNF (by omega) ?_ | refine WrapK.i64 (by omega) (by omega) ?_ | refine Drawn.mk (by kernel_rfl) ?_); conv => whnf)
              have HH : Hp h0 _ (Res.pol g (.slice none 0 0) (othF 0) bR bV bM 0 0 0 0 :: Res.mp pI Rul.enc bR [] :: Res.mp pI Vlv.enc bV V1 :: Res.mp pI ptrV bM M :: Res.mss X :: Res.bag B1 :: Res.ob g2 (.cells ((wbox w A0 A1 A2 D0 D1 D2 a0c a1c a2c d0c d1c d2c) : List Value).toArray 35 (0, 0)) :: Res.ob g6 (.cells ([.bool (gB w 2 0), .bool (gB w 2 1), .bool (gB w 2 2)] : List Value).toArray 40 (0, 0)) :: Res.ob g7 (.cells ([ptq Z 0, ptq Z 1, ptq Z 2] : List Value).toArray 42 (0, 0)) :: Res.mss Y :: []) := Hp.order H 10 [0, 1, 2, 3, 5, 4, 6, 7, 8, 9] (by decide) rfl
              repeat clear H
              have H := HH
              clear HH
              refine CallK.mono (setmeter_call H 1 _ _ _ _) ?_
              rintro _ h11 ⟨e, M1, X1, hr, rfl, P⟩
              have hr2 := setm_bad hr (by omega) (by omega) cc
              obtain ⟨rfl, rfl, rfl⟩ := hr2
              have mz1 := mz.bad hcf
              repeat clear H
              have H := P
              clear P
              have HH : Hp h0 _ (pjB g g2 g6 g7 bR bV bM w (wbox w A0 A1 A2 D0 D1 D2 a0c a1c a2c d0c d1c d2c) (.slice none 0 0) (othF 0) 0 0 0 0 [] V1 M1 B1 X1 2 Z Y) := Hp.order H 10 [0, 1, 2, 3, 5, 4, 6, 7, 8, 9] (by decide) rfl
              repeat clear H
              have H := HH
              clear HH
              conv => whnf
              repeat ((first | (refine Hp.st H 8 rfl rfl rfl rfl rfl ?_; intro h H) | refine iteT (by omega) ?_ | refine iteF (by omega) ?_ | refine iteET (by omega) ?_ | refine iteEF (by omega) ?_ | refine iteNT (by omega) ?_ | refine iteNF (by omega) ?_ | refine WrapK.i64 (by omega) (by omega) ?_ | refine Drawn.mk (by kernel_rfl) ?_); conv => whnf)
              have HH : Hp h0 _ (pjB g g2 g6 g7 bR bV bM w (wbox w A0 A1 A2 D0 D1 D2 a0c a1c a2c d0c d1c d2c) (.slice none 0 0) (othF 0) 0 0 0 0 [] V1 M1 B1 X1 2 Z Y) := Hp.eqs H (by unfold pjB; rw [ptq_no (fun z hz => by have := (mz.yes z hz).1; omega : ∀ z ∈ Z, z.n ≠ 1)]; rfl)
              repeat clear H
              have H := HH
              clear HH
              exact ⟨(2, (V1, M1, B1), (X1, Y, Z)), ⟨(by first | rfl | (show Value.int .i64 _ = _; congr 1; omega) | (show Value.int .i64 _ = _; rw [wrap64_id (by omega) (by omega)]; first | rfl | (congr 1; omega))), trivial⟩, (by repeat (first | exact trivial | refine ⟨rfl, ?_⟩)), ⟨by show 2 ≤ 3; omega, gs1, mz1, H⟩, by show 3 - 2 < 3 - 1; omega⟩
          · have hg : goodB w 1 = true := goodB_true.2 ⟨w1, w2, by simpa using hb.symm⟩
            conv => whnf
            repeat ((first | refine Hp.ld H 6 rfl rfl ?_ | refine iteT (by omega) ?_ | refine iteF (by omega) ?_ | refine iteET (by omega) ?_ | refine iteEF (by omega) ?_ | refine iteNT (by omega) ?_ | refine iteNF (by omega) ?_ | refine WrapK.i64 (by omega) (by omega) ?_ | refine Drawn.mk (by kernel_rfl) ?_); conv => whnf)
            refine CallK.mono (setgate_call H 1 (w.gl 1) _ _ (w.gc 1) (EntsV.keep he1 H.keep) (RowsV.keep hz1 H.keep) (by omega) (by omega)) ?_
            rintro _ h9 ⟨e, V1, B1, hr, rfl, P⟩
            have hr2 := gs.good (by omega) hr hg
            obtain ⟨rfl, gs1⟩ := hr2
            clear hr H
            have H := P
            clear P
            conv => whnf
            repeat ((first | refine Hp.ld H 6 rfl rfl ?_ | (refine Hp.st H 7 rfl rfl rfl rfl rfl ?_; intro h H) | refine iteT (by omega) ?_ | refine iteF (by omega) ?_ | refine iteET (by omega) ?_ | refine iteEF (by omega) ?_ | refine iteNT (by omega) ?_ | refine iteNF (by omega) ?_ | refine WrapK.i64 (by omega) (by omega) ?_ | refine Drawn.mk (by kernel_rfl) ?_); conv => whnf)
            have HH : Hp h0 _ (pjB g g2 g6 g7 bR bV bM w (wbox w A0 A1 A2 D0 D1 D2 a0c a1c a2c d0c d1c d2c) (.slice none 0 0) (othF 0) 0 0 0 0 [] V1 M B1 X 2 Z Y) := Hp.eqs H (by unfold pjB; rw [show gB w 2 1 = true from hg]; rfl)
            repeat clear H
            have H := HH
            clear HH
            by_cases cc : CfgOk (w.cf 1).a (w.cf 1).b (w.cf 1).c (w.cf 1).d
            · have hcf : cfB w 1 = true := decide_eq_true cc
              refine CallK.mono (new_ok_call _ _ _ _ _ cc) ?_
              rintro _ h10 ⟨q, Tq, rfl, kq, hqs, hqc⟩
              have hq : ∀ z ∈ Y, z.1 ≠ q := mss_lt (H.get 9 rfl) hqs
              have H2 := Hp.mss_new (m := MS.start (w.cf 1).a (w.cf 1).b (w.cf 1).c (w.cf 1).d) H 9 rfl kq hqs hqc
              have HH : Hp h0 _ (pjB g g2 g6 g7 bR bV bM w (wbox w A0 A1 A2 D0 D1 D2 a0c a1c a2c d0c d1c d2c) (.slice none 0 0) (othF 0) 0 0 0 0 [] V1 M B1 X 2 Z ((q, (MS.start (w.cf 1).a (w.cf 1).b (w.cf 1).c (w.cf 1).d)) :: Y)) := H2
              repeat clear H; clear H2
              have H := HH
              clear HH
              clear kq
              conv => whnf
              repeat ((first | refine Hp.ld H 6 rfl rfl ?_ | refine iteT (by omega) ?_ | refine iteF (by omega) ?_ | refine iteET (by omega) ?_ | refine iteEF (by omega) ?_ | refine iteNT (by omega) ?_ | refine iteNF (by omega) ?_ | refine WrapK.i64 (by omega) (by omega) ?_ | refine Drawn.mk (by kernel_rfl) ?_); conv => whnf)
              have HH : Hp h0 _ (Res.pol g (.slice none 0 0) (othF 0) bR bV bM 0 0 0 0 :: Res.mp pI Rul.enc bR [] :: Res.mp pI Vlv.enc bV V1 :: Res.mp pI ptrV bM M :: Res.mss X :: Res.bag B1 :: Res.ob g2 (.cells ((wbox w A0 A1 A2 D0 D1 D2 a0c a1c a2c d0c d1c d2c) : List Value).toArray 35 (0, 0)) :: Res.ob g6 (.cells ([.bool (gB w 2 0), .bool (gB w 2 1), .bool (gB w 2 2)] : List Value).toArray 40 (0, 0)) :: Res.ob g7 (.cells ([ptq Z 0, ptq Z 1, ptq Z 2] : List Value).toArray 42 (0, 0)) :: Res.mss ((q, (MS.start (w.cf 1).a (w.cf 1).b (w.cf 1).c (w.cf 1).d)) :: Y) :: []) := Hp.order H 10 [0, 1, 2, 3, 5, 4, 6, 7, 8, 9] (by decide) rfl
              repeat clear H
              have H := HH
              clear HH
              refine CallK.mono (setmeter_call H 1 _ _ _ _) ?_
              rintro _ h11 ⟨e, M1, X1, hr, rfl, P⟩
              have hr2 := setm_ok hr (by omega) (by omega) cc
              obtain ⟨rfl, b1, hb1, rfl, rfl⟩ := hr2
              have mz1 := mz.good hcf hb1 hq
              repeat clear H
              have H := P
              clear P
              have HH : Hp h0 _ (pjB g g2 g6 g7 bR bV bM w (wbox w A0 A1 A2 D0 D1 D2 a0c a1c a2c d0c d1c d2c) (.slice none 0 0) (othF 0) 0 0 0 0 [] V1 (mput 1 b1 M) B1 ((b1, (MS.start (w.cf 1).a (w.cf 1).b (w.cf 1).c (w.cf 1).d)) :: X) 2 Z ((q, (MS.start (w.cf 1).a (w.cf 1).b (w.cf 1).c (w.cf 1).d)) :: Y)) := Hp.order H 10 [0, 1, 2, 3, 5, 4, 6, 7, 8, 9] (by decide) rfl
              repeat clear H
              have H := HH
              clear HH
              conv => whnf
              repeat ((first | (refine Hp.st H 8 rfl rfl rfl rfl rfl ?_; intro h H) | refine iteT (by omega) ?_ | refine iteF (by omega) ?_ | refine iteET (by omega) ?_ | refine iteEF (by omega) ?_ | refine iteNT (by omega) ?_ | refine iteNF (by omega) ?_ | refine WrapK.i64 (by omega) (by omega) ?_ | refine Drawn.mk (by kernel_rfl) ?_); conv => whnf)
              have HH : Hp h0 _ (pjB g g2 g6 g7 bR bV bM w (wbox w A0 A1 A2 D0 D1 D2 a0c a1c a2c d0c d1c d2c) (.slice none 0 0) (othF 0) 0 0 0 0 [] V1 (mput 1 b1 M) B1 ((b1, (MS.start (w.cf 1).a (w.cf 1).b (w.cf 1).c (w.cf 1).d)) :: X) 2 (⟨1, b1, q, (MS.start (w.cf 1).a (w.cf 1).b (w.cf 1).c (w.cf 1).d)⟩ :: Z) ((q, (MS.start (w.cf 1).a (w.cf 1).b (w.cf 1).c (w.cf 1).d)) :: Y)) := H
              repeat clear H
              have H := HH
              clear HH
              exact ⟨(2, (V1, (mput 1 b1 M), B1), (((b1, (MS.start (w.cf 1).a (w.cf 1).b (w.cf 1).c (w.cf 1).d)) :: X), ((q, (MS.start (w.cf 1).a (w.cf 1).b (w.cf 1).c (w.cf 1).d)) :: Y), (⟨1, b1, q, (MS.start (w.cf 1).a (w.cf 1).b (w.cf 1).c (w.cf 1).d)⟩ :: Z))), ⟨(by first | rfl | (show Value.int .i64 _ = _; congr 1; omega) | (show Value.int .i64 _ = _; rw [wrap64_id (by omega) (by omega)]; first | rfl | (congr 1; omega))), trivial⟩, (by repeat (first | exact trivial | refine ⟨rfl, ?_⟩)), ⟨by show 2 ≤ 3; omega, gs1, mz1, H⟩, by show 3 - 2 < 3 - 1; omega⟩
            · have hcf : cfB w 1 = false := decide_eq_false cc
              refine CallK.mono (new_bad_call _ _ _ _ _ cc) ?_
              rintro _ h10 ⟨rfl, kq⟩
              replace H := H.and kq
              clear kq
              conv => whnf
              repeat ((first | refine Hp.ld H 6 rfl rfl ?_ | refine iteT (by omega) ?_ | refine iteF (by omega) ?_ | refine iteET (by omega) ?_ | refine iteEF (by omega) ?_ | refine iteNT (by omega) ?_ | refine iteNF (by omega) ?_ | refine WrapK.i64 (by omega) (by omega) ?_ | refine Drawn.mk (by kernel_rfl) ?_); conv => whnf)
              have HH : Hp h0 _ (Res.pol g (.slice none 0 0) (othF 0) bR bV bM 0 0 0 0 :: Res.mp pI Rul.enc bR [] :: Res.mp pI Vlv.enc bV V1 :: Res.mp pI ptrV bM M :: Res.mss X :: Res.bag B1 :: Res.ob g2 (.cells ((wbox w A0 A1 A2 D0 D1 D2 a0c a1c a2c d0c d1c d2c) : List Value).toArray 35 (0, 0)) :: Res.ob g6 (.cells ([.bool (gB w 2 0), .bool (gB w 2 1), .bool (gB w 2 2)] : List Value).toArray 40 (0, 0)) :: Res.ob g7 (.cells ([ptq Z 0, ptq Z 1, ptq Z 2] : List Value).toArray 42 (0, 0)) :: Res.mss Y :: []) := Hp.order H 10 [0, 1, 2, 3, 5, 4, 6, 7, 8, 9] (by decide) rfl
              repeat clear H
              have H := HH
              clear HH
              refine CallK.mono (setmeter_call H 1 _ _ _ _) ?_
              rintro _ h11 ⟨e, M1, X1, hr, rfl, P⟩
              have hr2 := setm_bad hr (by omega) (by omega) cc
              obtain ⟨rfl, rfl, rfl⟩ := hr2
              have mz1 := mz.bad hcf
              repeat clear H
              have H := P
              clear P
              have HH : Hp h0 _ (pjB g g2 g6 g7 bR bV bM w (wbox w A0 A1 A2 D0 D1 D2 a0c a1c a2c d0c d1c d2c) (.slice none 0 0) (othF 0) 0 0 0 0 [] V1 M1 B1 X1 2 Z Y) := Hp.order H 10 [0, 1, 2, 3, 5, 4, 6, 7, 8, 9] (by decide) rfl
              repeat clear H
              have H := HH
              clear HH
              conv => whnf
              repeat ((first | (refine Hp.st H 8 rfl rfl rfl rfl rfl ?_; intro h H) | refine iteT (by omega) ?_ | refine iteF (by omega) ?_ | refine iteET (by omega) ?_ | refine iteEF (by omega) ?_ | refine iteNT (by omega) ?_ | refine iteNF (by omega) ?_ | refine WrapK.i64 (by omega) (by omega) ?_ | refine Drawn.mk (by kernel_rfl) ?_); conv => whnf)
              have HH : Hp h0 _ (pjB g g2 g6 g7 bR bV bM w (wbox w A0 A1 A2 D0 D1 D2 a0c a1c a2c d0c d1c d2c) (.slice none 0 0) (othF 0) 0 0 0 0 [] V1 M1 B1 X1 2 Z Y) := Hp.eqs H (by unfold pjB; rw [ptq_no (fun z hz => by have := (mz.yes z hz).1; omega : ∀ z ∈ Z, z.n ≠ 1)]; rfl)
              repeat clear H
              have H := HH
              clear HH
              exact ⟨(2, (V1, M1, B1), (X1, Y, Z)), ⟨(by first | rfl | (show Value.int .i64 _ = _; congr 1; omega) | (show Value.int .i64 _ = _; rw [wrap64_id (by omega) (by omega)]; first | rfl | (congr 1; omega))), trivial⟩, (by repeat (first | exact trivial | refine ⟨rfl, ?_⟩)), ⟨by show 2 ≤ 3; omega, gs1, mz1, H⟩, by show 3 - 2 < 3 - 1; omega⟩
        · conv => whnf
          repeat ((first | refine Hp.ld H 6 rfl rfl ?_ | (refine Hp.st H 7 rfl rfl rfl rfl rfl ?_; intro h H) | (refine Hp.st H 8 rfl rfl rfl rfl rfl ?_; intro h H) | refine iteT (by omega) ?_ | refine iteF (by omega) ?_ | refine iteET (by omega) ?_ | refine iteEF (by omega) ?_ | refine iteNT (by omega) ?_ | refine iteNF (by omega) ?_ | refine WrapK.i64 (by omega) (by omega) ?_ | refine Drawn.mk (by kernel_rfl) ?_); conv => whnf)
          refine ⟨Nat × Bool, [0, 1, 2, 4, 5, 6, 7, 8, 12, 13, 14, 15, 16, 17, 18, 19, 20, 21, 23, 24, 25, 26, 27, 28, 30, 33, 35, 36, 52, 76, 77, 114, 135, 142, 143, 144, 156, 165, 166, 191, 192, 230, 232, 233, 234, 235, 257, 269, 272, 279, 284, 292, 293, 296, 299, 311, 345], fun q => [(78, .int .i64 (q.1 : Nat)), (9, .bool false)], fun q h' => q.1 ≤ (w.gc 1).length ∧ Hp h0 h' (pjB g g2 g6 g7 bR bV bM w (wbox w A0 A1 A2 D0 D1 D2 a0c a1c a2c d0c d1c d2c) (.slice none 0 0) (othF 0) 0 0 0 0 [] V M B X 1 Z Y), fun q => (w.gc 1).length - q.1, ?_⟩
          conv => whnf
          refine ⟨⟨(0, true), ⟨rfl, (by rw [show (((w.gc 1).length : Int) == ((w.gl 1).es.length : Int)) = false from beq_false_of_ne (by omega)]; rfl), trivial⟩, by show 0 ≤ _; omega, H⟩, ?_⟩
          clear H
          rintro ⟨j, b⟩ h8 ⟨jA, H⟩
          dsimp only at jA H ⊢
          by_cases cj : j < (w.gc 1).length
          · have hX := list_at (L := w.gc 1) (i := j) cj
            obtain ⟨c, hc⟩ := hX
            have hX := (RowsV.keep hz1 H.keep).some (by omega)
            obtain ⟨cb, co, hD⟩ := hX
            subst hD
            have hzj : IntsV h8 (.slice (some ⟨cb, co, none⟩) (w.gc 1).length d1c) (w.gc 1) := RowsV.keep hz1 H.keep
            conv => whnf
            repeat ((first | refine iteT (by omega) ?_ | refine iteF (by omega) ?_ | refine iteET (by omega) ?_ | refine iteEF (by omega) ?_ | refine iteNT (by omega) ?_ | refine iteNF (by omega) ?_ | refine WrapK.i64 (by omega) (by omega) ?_ | refine Drawn.mk (by kernel_rfl) ?_); conv => whnf)
            refine int_ld hzj hc rfl rfl rfl (by first | omega | (simp; done) | (simp; omega)) ?_
            conv => whnf
            repeat ((first | refine iteT (by omega) ?_ | refine iteF (by omega) ?_ | refine iteET (by omega) ?_ | refine iteEF (by omega) ?_ | refine iteNT (by omega) ?_ | refine iteNF (by omega) ?_ | refine WrapK.i64 (by omega) (by omega) ?_ | refine Drawn.mk (by kernel_rfl) ?_); conv => whnf)
            exact ⟨(j + 1, b), ⟨(by first | rfl | (show Value.int .i64 _ = _; congr 1; omega) | (show Value.int .i64 _ = _; rw [wrap64_id (by omega) (by omega)]; first | rfl | (congr 1; omega))), rfl, trivial⟩, (by repeat (first | exact trivial | refine ⟨rfl, ?_⟩)), ⟨by show j + 1 ≤ _; omega, H⟩, by show _ - (j + 1) < _ - j; omega⟩
          have e : j = (w.gc 1).length := by omega
          subst e
          have hg : goodB w 1 = false := by
            rw [Bool.eq_false_iff]
            exact (fun e => absurd (goodB_true.1 e).2.1 w2)
          conv => whnf
          repeat ((first | refine Hp.ld H 6 rfl rfl ?_ | refine iteT (by omega) ?_ | refine iteF (by omega) ?_ | refine iteET (by omega) ?_ | refine iteEF (by omega) ?_ | refine iteNT (by omega) ?_ | refine iteNF (by omega) ?_ | refine WrapK.i64 (by omega) (by omega) ?_ | refine Drawn.mk (by kernel_rfl) ?_); conv => whnf)
          refine CallK.mono (setgate_call H 1 (w.gl 1) _ _ (w.gc 1) (EntsV.keep he1 H.keep) (RowsV.keep hz1 H.keep) (by omega) (by omega)) ?_
          rintro _ h9 ⟨e, V1, B1, hr, rfl, P⟩
          have hr2 := gs.bad (by omega) hr hg
          obtain ⟨rfl, rfl, rfl, gs1⟩ := hr2
          clear hr H
          have H := P
          clear P
          conv => whnf
          repeat ((first | refine Hp.ld H 6 rfl rfl ?_ | (refine Hp.st H 7 rfl rfl rfl rfl rfl ?_; intro h H) | refine iteT (by omega) ?_ | refine iteF (by omega) ?_ | refine iteET (by omega) ?_ | refine iteEF (by omega) ?_ | refine iteNT (by omega) ?_ | refine iteNF (by omega) ?_ | refine WrapK.i64 (by omega) (by omega) ?_ | refine Drawn.mk (by kernel_rfl) ?_); conv => whnf)
          have HH : Hp h0 _ (pjB g g2 g6 g7 bR bV bM w (wbox w A0 A1 A2 D0 D1 D2 a0c a1c a2c d0c d1c d2c) (.slice none 0 0) (othF 0) 0 0 0 0 [] V1 M B1 X 2 Z Y) := Hp.eqs H (by unfold pjB; rw [show gB w 2 1 = false from hg]; rfl)
          repeat clear H
          have H := HH
          clear HH
          by_cases cc : CfgOk (w.cf 1).a (w.cf 1).b (w.cf 1).c (w.cf 1).d
          · have hcf : cfB w 1 = true := decide_eq_true cc
            refine CallK.mono (new_ok_call _ _ _ _ _ cc) ?_
            rintro _ h10 ⟨q, Tq, rfl, kq, hqs, hqc⟩
            have hq : ∀ z ∈ Y, z.1 ≠ q := mss_lt (H.get 9 rfl) hqs
            have H2 := Hp.mss_new (m := MS.start (w.cf 1).a (w.cf 1).b (w.cf 1).c (w.cf 1).d) H 9 rfl kq hqs hqc
            have HH : Hp h0 _ (pjB g g2 g6 g7 bR bV bM w (wbox w A0 A1 A2 D0 D1 D2 a0c a1c a2c d0c d1c d2c) (.slice none 0 0) (othF 0) 0 0 0 0 [] V1 M B1 X 2 Z ((q, (MS.start (w.cf 1).a (w.cf 1).b (w.cf 1).c (w.cf 1).d)) :: Y)) := H2
            repeat clear H; clear H2
            have H := HH
            clear HH
            clear kq
            conv => whnf
            repeat ((first | refine Hp.ld H 6 rfl rfl ?_ | refine iteT (by omega) ?_ | refine iteF (by omega) ?_ | refine iteET (by omega) ?_ | refine iteEF (by omega) ?_ | refine iteNT (by omega) ?_ | refine iteNF (by omega) ?_ | refine WrapK.i64 (by omega) (by omega) ?_ | refine Drawn.mk (by kernel_rfl) ?_); conv => whnf)
            have HH : Hp h0 _ (Res.pol g (.slice none 0 0) (othF 0) bR bV bM 0 0 0 0 :: Res.mp pI Rul.enc bR [] :: Res.mp pI Vlv.enc bV V1 :: Res.mp pI ptrV bM M :: Res.mss X :: Res.bag B1 :: Res.ob g2 (.cells ((wbox w A0 A1 A2 D0 D1 D2 a0c a1c a2c d0c d1c d2c) : List Value).toArray 35 (0, 0)) :: Res.ob g6 (.cells ([.bool (gB w 2 0), .bool (gB w 2 1), .bool (gB w 2 2)] : List Value).toArray 40 (0, 0)) :: Res.ob g7 (.cells ([ptq Z 0, ptq Z 1, ptq Z 2] : List Value).toArray 42 (0, 0)) :: Res.mss ((q, (MS.start (w.cf 1).a (w.cf 1).b (w.cf 1).c (w.cf 1).d)) :: Y) :: []) := Hp.order H 10 [0, 1, 2, 3, 5, 4, 6, 7, 8, 9] (by decide) rfl
            repeat clear H
            have H := HH
            clear HH
            refine CallK.mono (setmeter_call H 1 _ _ _ _) ?_
            rintro _ h11 ⟨e, M1, X1, hr, rfl, P⟩
            have hr2 := setm_ok hr (by omega) (by omega) cc
            obtain ⟨rfl, b1, hb1, rfl, rfl⟩ := hr2
            have mz1 := mz.good hcf hb1 hq
            repeat clear H
            have H := P
            clear P
            have HH : Hp h0 _ (pjB g g2 g6 g7 bR bV bM w (wbox w A0 A1 A2 D0 D1 D2 a0c a1c a2c d0c d1c d2c) (.slice none 0 0) (othF 0) 0 0 0 0 [] V1 (mput 1 b1 M) B1 ((b1, (MS.start (w.cf 1).a (w.cf 1).b (w.cf 1).c (w.cf 1).d)) :: X) 2 Z ((q, (MS.start (w.cf 1).a (w.cf 1).b (w.cf 1).c (w.cf 1).d)) :: Y)) := Hp.order H 10 [0, 1, 2, 3, 5, 4, 6, 7, 8, 9] (by decide) rfl
            repeat clear H
            have H := HH
            clear HH
            conv => whnf
            repeat ((first | (refine Hp.st H 8 rfl rfl rfl rfl rfl ?_; intro h H) | refine iteT (by omega) ?_ | refine iteF (by omega) ?_ | refine iteET (by omega) ?_ | refine iteEF (by omega) ?_ | refine iteNT (by omega) ?_ | refine iteNF (by omega) ?_ | refine WrapK.i64 (by omega) (by omega) ?_ | refine Drawn.mk (by kernel_rfl) ?_); conv => whnf)
            have HH : Hp h0 _ (pjB g g2 g6 g7 bR bV bM w (wbox w A0 A1 A2 D0 D1 D2 a0c a1c a2c d0c d1c d2c) (.slice none 0 0) (othF 0) 0 0 0 0 [] V1 (mput 1 b1 M) B1 ((b1, (MS.start (w.cf 1).a (w.cf 1).b (w.cf 1).c (w.cf 1).d)) :: X) 2 (⟨1, b1, q, (MS.start (w.cf 1).a (w.cf 1).b (w.cf 1).c (w.cf 1).d)⟩ :: Z) ((q, (MS.start (w.cf 1).a (w.cf 1).b (w.cf 1).c (w.cf 1).d)) :: Y)) := H
            repeat clear H
            have H := HH
            clear HH
            exact ⟨(2, (V1, (mput 1 b1 M), B1), (((b1, (MS.start (w.cf 1).a (w.cf 1).b (w.cf 1).c (w.cf 1).d)) :: X), ((q, (MS.start (w.cf 1).a (w.cf 1).b (w.cf 1).c (w.cf 1).d)) :: Y), (⟨1, b1, q, (MS.start (w.cf 1).a (w.cf 1).b (w.cf 1).c (w.cf 1).d)⟩ :: Z))), ⟨(by first | rfl | (show Value.int .i64 _ = _; congr 1; omega) | (show Value.int .i64 _ = _; rw [wrap64_id (by omega) (by omega)]; first | rfl | (congr 1; omega))), trivial⟩, (by repeat (first | exact trivial | refine ⟨rfl, ?_⟩)), ⟨by show 2 ≤ 3; omega, gs1, mz1, H⟩, by show 3 - 2 < 3 - 1; omega⟩
          · have hcf : cfB w 1 = false := decide_eq_false cc
            refine CallK.mono (new_bad_call _ _ _ _ _ cc) ?_
            rintro _ h10 ⟨rfl, kq⟩
            replace H := H.and kq
            clear kq
            conv => whnf
            repeat ((first | refine Hp.ld H 6 rfl rfl ?_ | refine iteT (by omega) ?_ | refine iteF (by omega) ?_ | refine iteET (by omega) ?_ | refine iteEF (by omega) ?_ | refine iteNT (by omega) ?_ | refine iteNF (by omega) ?_ | refine WrapK.i64 (by omega) (by omega) ?_ | refine Drawn.mk (by kernel_rfl) ?_); conv => whnf)
            have HH : Hp h0 _ (Res.pol g (.slice none 0 0) (othF 0) bR bV bM 0 0 0 0 :: Res.mp pI Rul.enc bR [] :: Res.mp pI Vlv.enc bV V1 :: Res.mp pI ptrV bM M :: Res.mss X :: Res.bag B1 :: Res.ob g2 (.cells ((wbox w A0 A1 A2 D0 D1 D2 a0c a1c a2c d0c d1c d2c) : List Value).toArray 35 (0, 0)) :: Res.ob g6 (.cells ([.bool (gB w 2 0), .bool (gB w 2 1), .bool (gB w 2 2)] : List Value).toArray 40 (0, 0)) :: Res.ob g7 (.cells ([ptq Z 0, ptq Z 1, ptq Z 2] : List Value).toArray 42 (0, 0)) :: Res.mss Y :: []) := Hp.order H 10 [0, 1, 2, 3, 5, 4, 6, 7, 8, 9] (by decide) rfl
            repeat clear H
            have H := HH
            clear HH
            refine CallK.mono (setmeter_call H 1 _ _ _ _) ?_
            rintro _ h11 ⟨e, M1, X1, hr, rfl, P⟩
            have hr2 := setm_bad hr (by omega) (by omega) cc
            obtain ⟨rfl, rfl, rfl⟩ := hr2
            have mz1 := mz.bad hcf
            repeat clear H
            have H := P
            clear P
            have HH : Hp h0 _ (pjB g g2 g6 g7 bR bV bM w (wbox w A0 A1 A2 D0 D1 D2 a0c a1c a2c d0c d1c d2c) (.slice none 0 0) (othF 0) 0 0 0 0 [] V1 M1 B1 X1 2 Z Y) := Hp.order H 10 [0, 1, 2, 3, 5, 4, 6, 7, 8, 9] (by decide) rfl
            repeat clear H
            have H := HH
            clear HH
            conv => whnf
            repeat ((first | (refine Hp.st H 8 rfl rfl rfl rfl rfl ?_; intro h H) | refine iteT (by omega) ?_ | refine iteF (by omega) ?_ | refine iteET (by omega) ?_ | refine iteEF (by omega) ?_ | refine iteNT (by omega) ?_ | refine iteNF (by omega) ?_ | refine WrapK.i64 (by omega) (by omega) ?_ | refine Drawn.mk (by kernel_rfl) ?_); conv => whnf)
            have HH : Hp h0 _ (pjB g g2 g6 g7 bR bV bM w (wbox w A0 A1 A2 D0 D1 D2 a0c a1c a2c d0c d1c d2c) (.slice none 0 0) (othF 0) 0 0 0 0 [] V1 M1 B1 X1 2 Z Y) := Hp.eqs H (by unfold pjB; rw [ptq_no (fun z hz => by have := (mz.yes z hz).1; omega : ∀ z ∈ Z, z.n ≠ 1)]; rfl)
            repeat clear H
            have H := HH
            clear HH
            exact ⟨(2, (V1, M1, B1), (X1, Y, Z)), ⟨(by first | rfl | (show Value.int .i64 _ = _; congr 1; omega) | (show Value.int .i64 _ = _; rw [wrap64_id (by omega) (by omega)]; first | rfl | (congr 1; omega))), trivial⟩, (by repeat (first | exact trivial | refine ⟨rfl, ?_⟩)), ⟨by show 2 ≤ 3; omega, gs1, mz1, H⟩, by show 3 - 2 < 3 - 1; omega⟩
      · rw [check_no w1] at ev
        subst ev
        conv => whnf
        repeat ((first | refine Hp.ld H 6 rfl rfl ?_ | (refine Hp.st H 7 rfl rfl rfl rfl rfl ?_; intro h H) | (refine Hp.st H 8 rfl rfl rfl rfl rfl ?_; intro h H) | refine iteT (by omega) ?_ | refine iteF (by omega) ?_ | refine iteET (by omega) ?_ | refine iteEF (by omega) ?_ | refine iteNT (by omega) ?_ | refine iteNF (by omega) ?_ | refine WrapK.i64 (by omega) (by omega) ?_ | refine Drawn.mk (by kernel_rfl) ?_); conv => whnf)
        refine ⟨Nat × Bool, [0, 1, 2, 4, 5, 6, 7, 8, 12, 13, 14, 15, 16, 17, 18, 19, 20, 21, 23, 24, 25, 26, 27, 28, 30, 33, 35, 36, 52, 76, 77, 114, 135, 142, 143, 144, 156, 165, 166, 191, 192, 230, 232, 233, 234, 235, 257, 269, 272, 279, 284, 292, 293, 296, 299, 311, 345], fun q => [(78, .int .i64 (q.1 : Nat)), (9, .bool false)], fun q h' => q.1 ≤ (w.gc 1).length ∧ Hp h0 h' (pjB g g2 g6 g7 bR bV bM w (wbox w A0 A1 A2 D0 D1 D2 a0c a1c a2c d0c d1c d2c) (.slice none 0 0) (othF 0) 0 0 0 0 [] V M B X 1 Z Y), fun q => (w.gc 1).length - q.1, ?_⟩
        conv => whnf
        refine ⟨⟨(0, true), ⟨rfl, rfl, trivial⟩, by show 0 ≤ _; omega, H⟩, ?_⟩
        clear H
        rintro ⟨j, b⟩ h8 ⟨jA, H⟩
        dsimp only at jA H ⊢
        by_cases cj : j < (w.gc 1).length
        · have hX := list_at (L := w.gc 1) (i := j) cj
          obtain ⟨c, hc⟩ := hX
          have hX := (RowsV.keep hz1 H.keep).some (by omega)
          obtain ⟨cb, co, hD⟩ := hX
          subst hD
          have hzj : IntsV h8 (.slice (some ⟨cb, co, none⟩) (w.gc 1).length d1c) (w.gc 1) := RowsV.keep hz1 H.keep
          conv => whnf
          repeat ((first | refine iteT (by omega) ?_ | refine iteF (by omega) ?_ | refine iteET (by omega) ?_ | refine iteEF (by omega) ?_ | refine iteNT (by omega) ?_ | refine iteNF (by omega) ?_ | refine WrapK.i64 (by omega) (by omega) ?_ | refine Drawn.mk (by kernel_rfl) ?_); conv => whnf)
          refine int_ld hzj hc rfl rfl rfl (by first | omega | (simp; done) | (simp; omega)) ?_
          conv => whnf
          repeat ((first | refine iteT (by omega) ?_ | refine iteF (by omega) ?_ | refine iteET (by omega) ?_ | refine iteEF (by omega) ?_ | refine iteNT (by omega) ?_ | refine iteNF (by omega) ?_ | refine WrapK.i64 (by omega) (by omega) ?_ | refine Drawn.mk (by kernel_rfl) ?_); conv => whnf)
          exact ⟨(j + 1, b), ⟨(by first | rfl | (show Value.int .i64 _ = _; congr 1; omega) | (show Value.int .i64 _ = _; rw [wrap64_id (by omega) (by omega)]; first | rfl | (congr 1; omega))), rfl, trivial⟩, (by repeat (first | exact trivial | refine ⟨rfl, ?_⟩)), ⟨by show j + 1 ≤ _; omega, H⟩, by show _ - (j + 1) < _ - j; omega⟩
        have e : j = (w.gc 1).length := by omega
        subst e
        have hg : goodB w 1 = false := by
          rw [Bool.eq_false_iff]
          exact (fun e => absurd (goodB_true.1 e).1 w1)
        conv => whnf
        repeat ((first | refine Hp.ld H 6 rfl rfl ?_ | refine iteT (by omega) ?_ | refine iteF (by omega) ?_ | refine iteET (by omega) ?_ | refine iteEF (by omega) ?_ | refine iteNT (by omega) ?_ | refine iteNF (by omega) ?_ | refine WrapK.i64 (by omega) (by omega) ?_ | refine Drawn.mk (by kernel_rfl) ?_); conv => whnf)
        refine CallK.mono (setgate_call H 1 (w.gl 1) _ _ (w.gc 1) (EntsV.keep he1 H.keep) (RowsV.keep hz1 H.keep) (by omega) (by omega)) ?_
        rintro _ h9 ⟨e, V1, B1, hr, rfl, P⟩
        have hr2 := gs.bad (by omega) hr hg
        obtain ⟨rfl, rfl, rfl, gs1⟩ := hr2
        clear hr H
        have H := P
        clear P
        conv => whnf
        repeat ((first | refine Hp.ld H 6 rfl rfl ?_ | (refine Hp.st H 7 rfl rfl rfl rfl rfl ?_; intro h H) | refine iteT (by omega) ?_ | refine iteF (by omega) ?_ | refine iteET (by omega) ?_ | refine iteEF (by omega) ?_ | refine iteNT (by omega) ?_ | refine iteNF (by omega) ?_ | refine WrapK.i64 (by omega) (by omega) ?_ | refine Drawn.mk (by kernel_rfl) ?_); conv => whnf)
        have HH : Hp h0 _ (pjB g g2 g6 g7 bR bV bM w (wbox w A0 A1 A2 D0 D1 D2 a0c a1c a2c d0c d1c d2c) (.slice none 0 0) (othF 0) 0 0 0 0 [] V1 M B1 X 2 Z Y) := Hp.eqs H (by unfold pjB; rw [show gB w 2 1 = false from hg]; rfl)
        repeat clear H
        have H := HH
        clear HH
        by_cases cc : CfgOk (w.cf 1).a (w.cf 1).b (w.cf 1).c (w.cf 1).d
        · have hcf : cfB w 1 = true := decide_eq_true cc
          refine CallK.mono (new_ok_call _ _ _ _ _ cc) ?_
          rintro _ h10 ⟨q, Tq, rfl, kq, hqs, hqc⟩
          have hq : ∀ z ∈ Y, z.1 ≠ q := mss_lt (H.get 9 rfl) hqs
          have H2 := Hp.mss_new (m := MS.start (w.cf 1).a (w.cf 1).b (w.cf 1).c (w.cf 1).d) H 9 rfl kq hqs hqc
          have HH : Hp h0 _ (pjB g g2 g6 g7 bR bV bM w (wbox w A0 A1 A2 D0 D1 D2 a0c a1c a2c d0c d1c d2c) (.slice none 0 0) (othF 0) 0 0 0 0 [] V1 M B1 X 2 Z ((q, (MS.start (w.cf 1).a (w.cf 1).b (w.cf 1).c (w.cf 1).d)) :: Y)) := H2
          repeat clear H; clear H2
          have H := HH
          clear HH
          clear kq
          conv => whnf
          repeat ((first | refine Hp.ld H 6 rfl rfl ?_ | refine iteT (by omega) ?_ | refine iteF (by omega) ?_ | refine iteET (by omega) ?_ | refine iteEF (by omega) ?_ | refine iteNT (by omega) ?_ | refine iteNF (by omega) ?_ | refine WrapK.i64 (by omega) (by omega) ?_ | refine Drawn.mk (by kernel_rfl) ?_); conv => whnf)
          have HH : Hp h0 _ (Res.pol g (.slice none 0 0) (othF 0) bR bV bM 0 0 0 0 :: Res.mp pI Rul.enc bR [] :: Res.mp pI Vlv.enc bV V1 :: Res.mp pI ptrV bM M :: Res.mss X :: Res.bag B1 :: Res.ob g2 (.cells ((wbox w A0 A1 A2 D0 D1 D2 a0c a1c a2c d0c d1c d2c) : List Value).toArray 35 (0, 0)) :: Res.ob g6 (.cells ([.bool (gB w 2 0), .bool (gB w 2 1), .bool (gB w 2 2)] : List Value).toArray 40 (0, 0)) :: Res.ob g7 (.cells ([ptq Z 0, ptq Z 1, ptq Z 2] : List Value).toArray 42 (0, 0)) :: Res.mss ((q, (MS.start (w.cf 1).a (w.cf 1).b (w.cf 1).c (w.cf 1).d)) :: Y) :: []) := Hp.order H 10 [0, 1, 2, 3, 5, 4, 6, 7, 8, 9] (by decide) rfl
          repeat clear H
          have H := HH
          clear HH
          refine CallK.mono (setmeter_call H 1 _ _ _ _) ?_
          rintro _ h11 ⟨e, M1, X1, hr, rfl, P⟩
          have hr2 := setm_ok hr (by omega) (by omega) cc
          obtain ⟨rfl, b1, hb1, rfl, rfl⟩ := hr2
          have mz1 := mz.good hcf hb1 hq
          repeat clear H
          have H := P
          clear P
          have HH : Hp h0 _ (pjB g g2 g6 g7 bR bV bM w (wbox w A0 A1 A2 D0 D1 D2 a0c a1c a2c d0c d1c d2c) (.slice none 0 0) (othF 0) 0 0 0 0 [] V1 (mput 1 b1 M) B1 ((b1, (MS.start (w.cf 1).a (w.cf 1).b (w.cf 1).c (w.cf 1).d)) :: X) 2 Z ((q, (MS.start (w.cf 1).a (w.cf 1).b (w.cf 1).c (w.cf 1).d)) :: Y)) := Hp.order H 10 [0, 1, 2, 3, 5, 4, 6, 7, 8, 9] (by decide) rfl
          repeat clear H
          have H := HH
          clear HH
          conv => whnf
          repeat ((first | (refine Hp.st H 8 rfl rfl rfl rfl rfl ?_; intro h H) | refine iteT (by omega) ?_ | refine iteF (by omega) ?_ | refine iteET (by omega) ?_ | refine iteEF (by omega) ?_ | refine iteNT (by omega) ?_ | refine iteNF (by omega) ?_ | refine WrapK.i64 (by omega) (by omega) ?_ | refine Drawn.mk (by kernel_rfl) ?_); conv => whnf)
          have HH : Hp h0 _ (pjB g g2 g6 g7 bR bV bM w (wbox w A0 A1 A2 D0 D1 D2 a0c a1c a2c d0c d1c d2c) (.slice none 0 0) (othF 0) 0 0 0 0 [] V1 (mput 1 b1 M) B1 ((b1, (MS.start (w.cf 1).a (w.cf 1).b (w.cf 1).c (w.cf 1).d)) :: X) 2 (⟨1, b1, q, (MS.start (w.cf 1).a (w.cf 1).b (w.cf 1).c (w.cf 1).d)⟩ :: Z) ((q, (MS.start (w.cf 1).a (w.cf 1).b (w.cf 1).c (w.cf 1).d)) :: Y)) := H
          repeat clear H
          have H := HH
          clear HH
          exact ⟨(2, (V1, (mput 1 b1 M), B1), (((b1, (MS.start (w.cf 1).a (w.cf 1).b (w.cf 1).c (w.cf 1).d)) :: X), ((q, (MS.start (w.cf 1).a (w.cf 1).b (w.cf 1).c (w.cf 1).d)) :: Y), (⟨1, b1, q, (MS.start (w.cf 1).a (w.cf 1).b (w.cf 1).c (w.cf 1).d)⟩ :: Z))), ⟨(by first | rfl | (show Value.int .i64 _ = _; congr 1; omega) | (show Value.int .i64 _ = _; rw [wrap64_id (by omega) (by omega)]; first | rfl | (congr 1; omega))), trivial⟩, (by repeat (first | exact trivial | refine ⟨rfl, ?_⟩)), ⟨by show 2 ≤ 3; omega, gs1, mz1, H⟩, by show 3 - 2 < 3 - 1; omega⟩
        · have hcf : cfB w 1 = false := decide_eq_false cc
          refine CallK.mono (new_bad_call _ _ _ _ _ cc) ?_
          rintro _ h10 ⟨rfl, kq⟩
          replace H := H.and kq
          clear kq
          conv => whnf
          repeat ((first | refine Hp.ld H 6 rfl rfl ?_ | refine iteT (by omega) ?_ | refine iteF (by omega) ?_ | refine iteET (by omega) ?_ | refine iteEF (by omega) ?_ | refine iteNT (by omega) ?_ | refine iteNF (by omega) ?_ | refine WrapK.i64 (by omega) (by omega) ?_ | refine Drawn.mk (by kernel_rfl) ?_); conv => whnf)
          have HH : Hp h0 _ (Res.pol g (.slice none 0 0) (othF 0) bR bV bM 0 0 0 0 :: Res.mp pI Rul.enc bR [] :: Res.mp pI Vlv.enc bV V1 :: Res.mp pI ptrV bM M :: Res.mss X :: Res.bag B1 :: Res.ob g2 (.cells ((wbox w A0 A1 A2 D0 D1 D2 a0c a1c a2c d0c d1c d2c) : List Value).toArray 35 (0, 0)) :: Res.ob g6 (.cells ([.bool (gB w 2 0), .bool (gB w 2 1), .bool (gB w 2 2)] : List Value).toArray 40 (0, 0)) :: Res.ob g7 (.cells ([ptq Z 0, ptq Z 1, ptq Z 2] : List Value).toArray 42 (0, 0)) :: Res.mss Y :: []) := Hp.order H 10 [0, 1, 2, 3, 5, 4, 6, 7, 8, 9] (by decide) rfl
          repeat clear H
          have H := HH
          clear HH
          refine CallK.mono (setmeter_call H 1 _ _ _ _) ?_
          rintro _ h11 ⟨e, M1, X1, hr, rfl, P⟩
          have hr2 := setm_bad hr (by omega) (by omega) cc
          obtain ⟨rfl, rfl, rfl⟩ := hr2
          have mz1 := mz.bad hcf
          repeat clear H
          have H := P
          clear P
          have HH : Hp h0 _ (pjB g g2 g6 g7 bR bV bM w (wbox w A0 A1 A2 D0 D1 D2 a0c a1c a2c d0c d1c d2c) (.slice none 0 0) (othF 0) 0 0 0 0 [] V1 M1 B1 X1 2 Z Y) := Hp.order H 10 [0, 1, 2, 3, 5, 4, 6, 7, 8, 9] (by decide) rfl
          repeat clear H
          have H := HH
          clear HH
          conv => whnf
          repeat ((first | (refine Hp.st H 8 rfl rfl rfl rfl rfl ?_; intro h H) | refine iteT (by omega) ?_ | refine iteF (by omega) ?_ | refine iteET (by omega) ?_ | refine iteEF (by omega) ?_ | refine iteNT (by omega) ?_ | refine iteNF (by omega) ?_ | refine WrapK.i64 (by omega) (by omega) ?_ | refine Drawn.mk (by kernel_rfl) ?_); conv => whnf)
          have HH : Hp h0 _ (pjB g g2 g6 g7 bR bV bM w (wbox w A0 A1 A2 D0 D1 D2 a0c a1c a2c d0c d1c d2c) (.slice none 0 0) (othF 0) 0 0 0 0 [] V1 M1 B1 X1 2 Z Y) := Hp.eqs H (by unfold pjB; rw [ptq_no (fun z hz => by have := (mz.yes z hz).1; omega : ∀ z ∈ Z, z.n ≠ 1)]; rfl)
          repeat clear H
          have H := HH
          clear HH
          exact ⟨(2, (V1, M1, B1), (X1, Y, Z)), ⟨(by first | rfl | (show Value.int .i64 _ = _; congr 1; omega) | (show Value.int .i64 _ = _; rw [wrap64_id (by omega) (by omega)]; first | rfl | (congr 1; omega))), trivial⟩, (by repeat (first | exact trivial | refine ⟨rfl, ?_⟩)), ⟨by show 2 ≤ 3; omega, gs1, mz1, H⟩, by show 3 - 2 < 3 - 1; omega⟩
    · conv => whnf
      repeat ((first | refine Hp.ld H 6 rfl rfl ?_ | (refine Hp.st H 7 rfl rfl rfl rfl rfl ?_; intro h H) | (refine Hp.st H 8 rfl rfl rfl rfl rfl ?_; intro h H) | refine iteT (by omega) ?_ | refine iteF (by omega) ?_ | refine iteET (by omega) ?_ | refine iteEF (by omega) ?_ | refine iteNT (by omega) ?_ | refine iteNF (by omega) ?_ | refine WrapK.i64 (by omega) (by omega) ?_ | refine Drawn.mk (by kernel_rfl) ?_); conv => whnf)
      by_cases q1 : ((w.gl 2).es.length : Int) > 70
      · conv => whnf
        repeat ((first | refine Hp.ld H 6 rfl rfl ?_ | (refine Hp.st H 7 rfl rfl rfl rfl rfl ?_; intro h H) | (refine Hp.st H 8 rfl rfl rfl rfl rfl ?_; intro h H) | refine iteT (by omega) ?_ | refine iteF (by omega) ?_ | refine iteET (by omega) ?_ | refine iteEF (by omega) ?_ | refine iteNT (by omega) ?_ | refine iteNF (by omega) ?_ | refine WrapK.i64 (by omega) (by omega) ?_ | refine Drawn.mk (by kernel_rfl) ?_); conv => whnf)
        exact ⟨rfl, H.keep⟩
      by_cases q2 : ((w.gc 2).length : Int) > 70
      · conv => whnf
        repeat ((first | refine Hp.ld H 6 rfl rfl ?_ | (refine Hp.st H 7 rfl rfl rfl rfl rfl ?_; intro h H) | (refine Hp.st H 8 rfl rfl rfl rfl rfl ?_; intro h H) | refine iteT (by omega) ?_ | refine iteF (by omega) ?_ | refine iteET (by omega) ?_ | refine iteEF (by omega) ?_ | refine iteNT (by omega) ?_ | refine iteNF (by omega) ?_ | refine WrapK.i64 (by omega) (by omega) ?_ | refine Drawn.mk (by kernel_rfl) ?_); conv => whnf)
        exact ⟨rfl, H.keep⟩
      conv => whnf
      repeat ((first | refine Hp.ld H 6 rfl rfl ?_ | (refine Hp.st H 7 rfl rfl rfl rfl rfl ?_; intro h H) | (refine Hp.st H 8 rfl rfl rfl rfl rfl ?_; intro h H) | refine iteT (by omega) ?_ | refine iteF (by omega) ?_ | refine iteET (by omega) ?_ | refine iteEF (by omega) ?_ | refine iteNT (by omega) ?_ | refine iteNF (by omega) ?_ | refine WrapK.i64 (by omega) (by omega) ?_ | refine Drawn.mk (by kernel_rfl) ?_); conv => whnf)
      refine CallK.mono (gcheck_call _ (w.gl 2) _ (EntsV.keep he2 H.keep) (by omega)) ?_
      rintro v h7 ⟨kq, ev⟩
      replace H := H.and kq
      clear kq
      by_cases w1 : (w.gl 2).check = 0
      · rw [w1] at ev
        subst ev
        conv => whnf
        repeat ((first | refine Hp.ld H 6 rfl rfl ?_ | (refine Hp.st H 7 rfl rfl rfl rfl rfl ?_; intro h H) | (refine Hp.st H 8 rfl rfl rfl rfl rfl ?_; intro h H) | refine iteT (by omega) ?_ | refine iteF (by omega) ?_ | refine iteET (by omega) ?_ | refine iteEF (by omega) ?_ | refine iteNT (by omega) ?_ | refine iteNF (by omega) ?_ | refine WrapK.i64 (by omega) (by omega) ?_ | refine Drawn.mk (by kernel_rfl) ?_); conv => whnf)
        by_cases w2 : (w.gc 2).length = (w.gl 2).es.length
        · conv => whnf
          repeat ((first | refine Hp.ld H 6 rfl rfl ?_ | (refine Hp.st H 7 rfl rfl rfl rfl rfl ?_; intro h H) | (refine Hp.st H 8 rfl rfl rfl rfl rfl ?_; intro h H) | refine iteT (by omega) ?_ | refine iteF (by omega) ?_ | refine iteET (by omega) ?_ | refine iteEF (by omega) ?_ | refine iteNT (by omega) ?_ | refine iteNF (by omega) ?_ | refine WrapK.i64 (by omega) (by omega) ?_ | refine Drawn.mk (by kernel_rfl) ?_); conv => whnf)
          refine ⟨Nat × Bool, [0, 1, 2, 4, 5, 6, 7, 8, 12, 13, 14, 15, 16, 17, 18, 19, 20, 21, 23, 24, 25, 26, 27, 28, 30, 33, 35, 36, 52, 76, 77, 114, 135, 142, 143, 144, 156, 165, 166, 191, 192, 230, 232, 233, 234, 235, 257, 269, 272, 279, 284, 292, 293, 296, 299, 311, 345], fun q => [(78, .int .i64 (q.1 : Nat)), (9, .bool q.2)], fun q h' => q.1 ≤ (w.gc 2).length ∧ q.2 = (!((w.gc 2).take q.1).any cbad) ∧ Hp h0 h' (pjB g g2 g6 g7 bR bV bM w (wbox w A0 A1 A2 D0 D1 D2 a0c a1c a2c d0c d1c d2c) (.slice none 0 0) (othF 0) 0 0 0 0 [] V M B X 2 Z Y), fun q => (w.gc 2).length - q.1, ?_⟩
          conv => whnf
          refine ⟨⟨(0, true), ⟨rfl, (by rw [w2, beq_self_eq_true]; rfl), trivial⟩, by show 0 ≤ _; omega, rfl, H⟩, ?_⟩
          clear H
          rintro ⟨j, b⟩ h8 ⟨jA, hb, H⟩
          dsimp only at jA hb H ⊢
          by_cases cj : j < (w.gc 2).length
          · have hX := list_at (L := w.gc 2) (i := j) cj
            obtain ⟨c, hc⟩ := hX
            have hX := (RowsV.keep hz2 H.keep).some (by omega)
            obtain ⟨cb, co, hD⟩ := hX
            subst hD
            have hzj : IntsV h8 (.slice (some ⟨cb, co, none⟩) (w.gc 2).length d2c) (w.gc 2) := RowsV.keep hz2 H.keep
            conv => whnf
            repeat ((first | refine iteT (by omega) ?_ | refine iteF (by omega) ?_ | refine iteET (by omega) ?_ | refine iteEF (by omega) ?_ | refine iteNT (by omega) ?_ | refine iteNF (by omega) ?_ | refine WrapK.i64 (by omega) (by omega) ?_ | refine Drawn.mk (by kernel_rfl) ?_); conv => whnf)
            refine int_ld hzj hc rfl rfl rfl (by first | omega | (simp; done) | (simp; omega)) ?_
            have hs : (!((w.gc 2).take (j + 1)).any cbad) = (b && !(cbad c)) := by rw [hb, take_any hc, Bool.not_or]
            rcases b with _ | _
            · conv => whnf
              repeat ((first | refine iteT (by omega) ?_ | refine iteF (by omega) ?_ | refine iteET (by omega) ?_ | refine iteEF (by omega) ?_ | refine iteNT (by omega) ?_ | refine iteNF (by omega) ?_ | refine WrapK.i64 (by omega) (by omega) ?_ | refine Drawn.mk (by kernel_rfl) ?_); conv => whnf)
              exact ⟨(j + 1, false), ⟨(by first | rfl | (show Value.int .i64 _ = _; congr 1; omega) | (show Value.int .i64 _ = _; rw [wrap64_id (by omega) (by omega)]; first | rfl | (congr 1; omega))), rfl, trivial⟩, (by repeat (first | exact trivial | refine ⟨rfl, ?_⟩)), ⟨by show j + 1 ≤ _; omega, hs.symm, H⟩, by show _ - (j + 1) < _ - j; omega⟩
            by_cases d1 : c ≥ -1
            · by_cases d2 : c ≤ 7
              · conv => whnf
                repeat ((first | refine iteT (by omega) ?_ | refine iteF (by omega) ?_ | refine iteET (by omega) ?_ | refine iteEF (by omega) ?_ | refine iteNT (by omega) ?_ | refine iteNF (by omega) ?_ | refine WrapK.i64 (by omega) (by omega) ?_ | refine Drawn.mk (by kernel_rfl) ?_); conv => whnf)
                exact ⟨(j + 1, true), ⟨(by first | rfl | (show Value.int .i64 _ = _; congr 1; omega) | (show Value.int .i64 _ = _; rw [wrap64_id (by omega) (by omega)]; first | rfl | (congr 1; omega))), (by first | rfl | (simp [d2]; rfl)), trivial⟩, (by repeat (first | exact trivial | refine ⟨rfl, ?_⟩)), ⟨by show j + 1 ≤ _; omega, by show _ = _; rw [hs]; unfold cbad; simp; omega, H⟩, by show _ - (j + 1) < _ - j; omega⟩
              · conv => whnf
                repeat ((first | refine iteT (by omega) ?_ | refine iteF (by omega) ?_ | refine iteET (by omega) ?_ | refine iteEF (by omega) ?_ | refine iteNT (by omega) ?_ | refine iteNF (by omega) ?_ | refine WrapK.i64 (by omega) (by omega) ?_ | refine Drawn.mk (by kernel_rfl) ?_); conv => whnf)
                exact ⟨(j + 1, false), ⟨(by first | rfl | (show Value.int .i64 _ = _; congr 1; omega) | (show Value.int .i64 _ = _; rw [wrap64_id (by omega) (by omega)]; first | rfl | (congr 1; omega))), (by first | rfl | (simp [d2]; rfl)), trivial⟩, (by repeat (first | exact trivial | refine ⟨rfl, ?_⟩)), ⟨by show j + 1 ≤ _; omega, by show _ = _; rw [hs]; unfold cbad; simp; omega, H⟩, by show _ - (j + 1) < _ - j; omega⟩
            · conv => whnf
              repeat ((first | refine iteT (by omega) ?_ | refine iteF (by omega) ?_ | refine iteET (by omega) ?_ | refine iteEF (by omega) ?_ | refine iteNT (by omega) ?_ | refine iteNF (by omega) ?_ | refine WrapK.i64 (by omega) (by omega) ?_ | refine Drawn.mk (by kernel_rfl) ?_); conv => whnf)
              exact ⟨(j + 1, false), ⟨(by first | rfl | (show Value.int .i64 _ = _; congr 1; omega) | (show Value.int .i64 _ = _; rw [wrap64_id (by omega) (by omega)]; first | rfl | (congr 1; omega))), (by first | rfl | (simp [d2]; rfl)), trivial⟩, (by repeat (first | exact trivial | refine ⟨rfl, ?_⟩)), ⟨by show j + 1 ≤ _; omega, by show _ = _; rw [hs]; unfold cbad; simp; omega, H⟩, by show _ - (j + 1) < _ - j; omega⟩
          have e : j = (w.gc 2).length := by omega
          subst e
          rw [List.take_length] at hb
          rcases b with _ | _
          · have hg : goodB w 2 = false := by
              rw [Bool.eq_false_iff]
              intro e
              rw [(goodB_true.1 e).2.2] at hb
              cases hb
            conv => whnf
            repeat ((first | refine Hp.ld H 6 rfl rfl ?_ | refine iteT (by omega) ?_ | refine iteF (by omega) ?_ | refine iteET (by omega) ?_ | refine iteEF (by omega) ?_ | refine iteNT (by omega) ?_ | refine iteNF (by omega) ?_ | refine WrapK.i64 (by omega) (by omega) ?_ | refine Drawn.mk (by kernel_rfl) ?_); conv => whnf)
            refine CallK.mono (setgate_call H 2 (w.gl 2) _ _ (w.gc 2) (EntsV.keep he2 H.keep) (RowsV.keep hz2 H.keep) (by omega) (by omega)) ?_
            rintro _ h9 ⟨e, V1, B1, hr, rfl, P⟩
            have hr2 := gs.bad (by omega) hr hg
            obtain ⟨rfl, rfl, rfl, gs1⟩ := hr2
            clear hr H
            have H := P
            clear P
            conv => whnf
            repeat ((first | refine Hp.ld H 6 rfl rfl ?_ | (refine Hp.st H 7 rfl rfl rfl rfl rfl ?_; intro h H) | refine iteT (by omega) ?_ | refine iteF (by omega) ?_ | refine iteET (by omega) ?_ | refine iteEF (by omega) ?_ | refine iteNT (by omega) ?_ | refine iteNF (by omega) ?_ | refine WrapK.i64 (by omega) (by omega) ?_ | refine Drawn.mk (by kernel_rfl) ?_); conv => whnf)
            have HH : Hp h0 _ (pjB g g2 g6 g7 bR bV bM w (wbox w A0 A1 A2 D0 D1 D2 a0c a1c a2c d0c d1c d2c) (.slice none 0 0) (othF 0) 0 0 0 0 [] V1 M B1 X 3 Z Y) := Hp.eqs H (by unfold pjB; rw [show gB w 3 2 = false from hg]; rfl)
            repeat clear H
            have H := HH
            clear HH
            by_cases cc : CfgOk (w.cf 2).a (w.cf 2).b (w.cf 2).c (w.cf 2).d
            · have hcf : cfB w 2 = true := decide_eq_true cc
              refine CallK.mono (new_ok_call _ _ _ _ _ cc) ?_
              rintro _ h10 ⟨q, Tq, rfl, kq, hqs, hqc⟩
              have hq : ∀ z ∈ Y, z.1 ≠ q := mss_lt (H.get 9 rfl) hqs
              have H2 := Hp.mss_new (m := MS.start (w.cf 2).a (w.cf 2).b (w.cf 2).c (w.cf 2).d) H 9 rfl kq hqs hqc
              have HH : Hp h0 _ (pjB g g2 g6 g7 bR bV bM w (wbox w A0 A1 A2 D0 D1 D2 a0c a1c a2c d0c d1c d2c) (.slice none 0 0) (othF 0) 0 0 0 0 [] V1 M B1 X 3 Z ((q, (MS.start (w.cf 2).a (w.cf 2).b (w.cf 2).c (w.cf 2).d)) :: Y)) := H2
              repeat clear H; clear H2
              have H := HH
              clear HH
              clear kq
              conv => whnf
              repeat ((first | refine Hp.ld H 6 rfl rfl ?_ | refine iteT (by omega) ?_ | refine iteF (by omega) ?_ | refine iteET (by omega) ?_ | refine iteEF (by omega) ?_ | refine iteNT (by omega) ?_ | refine iteNF (by omega) ?_ | refine WrapK.i64 (by omega) (by omega) ?_ | refine Drawn.mk (by kernel_rfl) ?_); conv => whnf)
              have HH : Hp h0 _ (Res.pol g (.slice none 0 0) (othF 0) bR bV bM 0 0 0 0 :: Res.mp pI Rul.enc bR [] :: Res.mp pI Vlv.enc bV V1 :: Res.mp pI ptrV bM M :: Res.mss X :: Res.bag B1 :: Res.ob g2 (.cells ((wbox w A0 A1 A2 D0 D1 D2 a0c a1c a2c d0c d1c d2c) : List Value).toArray 35 (0, 0)) :: Res.ob g6 (.cells ([.bool (gB w 3 0), .bool (gB w 3 1), .bool (gB w 3 2)] : List Value).toArray 40 (0, 0)) :: Res.ob g7 (.cells ([ptq Z 0, ptq Z 1, ptq Z 2] : List Value).toArray 42 (0, 0)) :: Res.mss ((q, (MS.start (w.cf 2).a (w.cf 2).b (w.cf 2).c (w.cf 2).d)) :: Y) :: []) := Hp.order H 10 [0, 1, 2, 3, 5, 4, 6, 7, 8, 9] (by decide) rfl
              repeat clear H
              have H := HH
              clear HH
              refine CallK.mono (setmeter_call H 2 _ _ _ _) ?_
              rintro _ h11 ⟨e, M1, X1, hr, rfl, P⟩
              have hr2 := setm_ok hr (by omega) (by omega) cc
              obtain ⟨rfl, b1, hb1, rfl, rfl⟩ := hr2
              have mz1 := mz.good hcf hb1 hq
              repeat clear H
              have H := P
              clear P
              have HH : Hp h0 _ (pjB g g2 g6 g7 bR bV bM w (wbox w A0 A1 A2 D0 D1 D2 a0c a1c a2c d0c d1c d2c) (.slice none 0 0) (othF 0) 0 0 0 0 [] V1 (mput 2 b1 M) B1 ((b1, (MS.start (w.cf 2).a (w.cf 2).b (w.cf 2).c (w.cf 2).d)) :: X) 3 Z ((q, (MS.start (w.cf 2).a (w.cf 2).b (w.cf 2).c (w.cf 2).d)) :: Y)) := Hp.order H 10 [0, 1, 2, 3, 5, 4, 6, 7, 8, 9] (by decide) rfl
              repeat clear H
              have H := HH
              clear HH
              conv => whnf
              repeat ((first | (refine Hp.st H 8 rfl rfl rfl rfl rfl ?_; intro h H) | refine iteT (by omega) ?_ | refine iteF (by omega) ?_ | refine iteET (by omega) ?_ | refine iteEF (by omega) ?_ | refine iteNT (by omega) ?_ | refine iteNF (by omega) ?_ | refine WrapK.i64 (by omega) (by omega) ?_ | refine Drawn.mk (by kernel_rfl) ?_); conv => whnf)
              have HH : Hp h0 _ (pjB g g2 g6 g7 bR bV bM w (wbox w A0 A1 A2 D0 D1 D2 a0c a1c a2c d0c d1c d2c) (.slice none 0 0) (othF 0) 0 0 0 0 [] V1 (mput 2 b1 M) B1 ((b1, (MS.start (w.cf 2).a (w.cf 2).b (w.cf 2).c (w.cf 2).d)) :: X) 3 (⟨2, b1, q, (MS.start (w.cf 2).a (w.cf 2).b (w.cf 2).c (w.cf 2).d)⟩ :: Z) ((q, (MS.start (w.cf 2).a (w.cf 2).b (w.cf 2).c (w.cf 2).d)) :: Y)) := H
              repeat clear H
              have H := HH
              clear HH
              exact ⟨(3, (V1, (mput 2 b1 M), B1), (((b1, (MS.start (w.cf 2).a (w.cf 2).b (w.cf 2).c (w.cf 2).d)) :: X), ((q, (MS.start (w.cf 2).a (w.cf 2).b (w.cf 2).c (w.cf 2).d)) :: Y), (⟨2, b1, q, (MS.start (w.cf 2).a (w.cf 2).b (w.cf 2).c (w.cf 2).d)⟩ :: Z))), ⟨(by first | rfl | (show Value.int .i64 _ = _; congr 1; omega) | (show Value.int .i64 _ = _; rw [wrap64_id (by omega) (by omega)]; first | rfl | (congr 1; omega))), trivial⟩, (by repeat (first | exact trivial | refine ⟨rfl, ?_⟩)), ⟨by show 3 ≤ 3; omega, gs1, mz1, H⟩, by show 3 - 3 < 3 - 2; omega⟩
            · have hcf : cfB w 2 = false := decide_eq_false cc
              refine CallK.mono (new_bad_call _ _ _ _ _ cc) ?_
              rintro _ h10 ⟨rfl, kq⟩
              replace H := H.and kq
              clear kq
              conv => whnf
              repeat ((first | refine Hp.ld H 6 rfl rfl ?_ | refine iteT (by omega) ?_ | refine iteF (by omega) ?_ | refine iteET (by omega) ?_ | refine iteEF (by omega) ?_ | refine iteNT (by omega) ?_ | refine iteNF (by omega) ?_ | refine WrapK.i64 (by omega) (by omega) ?_ | refine Drawn.mk (by kernel_rfl) ?_); conv => whnf)
              have HH : Hp h0 _ (Res.pol g (.slice none 0 0) (othF 0) bR bV bM 0 0 0 0 :: Res.mp pI Rul.enc bR [] :: Res.mp pI Vlv.enc bV V1 :: Res.mp pI ptrV bM M :: Res.mss X :: Res.bag B1 :: Res.ob g2 (.cells ((wbox w A0 A1 A2 D0 D1 D2 a0c a1c a2c d0c d1c d2c) : List Value).toArray 35 (0, 0)) :: Res.ob g6 (.cells ([.bool (gB w 3 0), .bool (gB w 3 1), .bool (gB w 3 2)] : List Value).toArray 40 (0, 0)) :: Res.ob g7 (.cells ([ptq Z 0, ptq Z 1, ptq Z 2] : List Value).toArray 42 (0, 0)) :: Res.mss Y :: []) := Hp.order H 10 [0, 1, 2, 3, 5, 4, 6, 7, 8, 9] (by decide) rfl
              repeat clear H
              have H := HH
              clear HH
              refine CallK.mono (setmeter_call H 2 _ _ _ _) ?_
              rintro _ h11 ⟨e, M1, X1, hr, rfl, P⟩
              have hr2 := setm_bad hr (by omega) (by omega) cc
              obtain ⟨rfl, rfl, rfl⟩ := hr2
              have mz1 := mz.bad hcf
              repeat clear H
              have H := P
              clear P
              have HH : Hp h0 _ (pjB g g2 g6 g7 bR bV bM w (wbox w A0 A1 A2 D0 D1 D2 a0c a1c a2c d0c d1c d2c) (.slice none 0 0) (othF 0) 0 0 0 0 [] V1 M1 B1 X1 3 Z Y) := Hp.order H 10 [0, 1, 2, 3, 5, 4, 6, 7, 8, 9] (by decide) rfl
              repeat clear H
              have H := HH
              clear HH
              conv => whnf
              repeat ((first | (refine Hp.st H 8 rfl rfl rfl rfl rfl ?_; intro h H) | refine iteT (by omega) ?_ | refine iteF (by omega) ?_ | refine iteET (by omega) ?_ | refine iteEF (by omega) ?_ | refine iteNT (by omega) ?_ | refine iteNF (by omega) ?_ | refine WrapK.i64 (by omega) (by omega) ?_ | refine Drawn.mk (by kernel_rfl) ?_); conv => whnf)
              have HH : Hp h0 _ (pjB g g2 g6 g7 bR bV bM w (wbox w A0 A1 A2 D0 D1 D2 a0c a1c a2c d0c d1c d2c) (.slice none 0 0) (othF 0) 0 0 0 0 [] V1 M1 B1 X1 3 Z Y) := Hp.eqs H (by unfold pjB; rw [ptq_no (fun z hz => by have := (mz.yes z hz).1; omega : ∀ z ∈ Z, z.n ≠ 2)]; rfl)
              repeat clear H
              have H := HH
              clear HH
              exact ⟨(3, (V1, M1, B1), (X1, Y, Z)), ⟨(by first | rfl | (show Value.int .i64 _ = _; congr 1; omega) | (show Value.int .i64 _ = _; rw [wrap64_id (by omega) (by omega)]; first | rfl | (congr 1; omega))), trivial⟩, (by repeat (first | exact trivial | refine ⟨rfl, ?_⟩)), ⟨by show 3 ≤ 3; omega, gs1, mz1, H⟩, by show 3 - 3 < 3 - 2; omega⟩
          · have hg : goodB w 2 = true := goodB_true.2 ⟨w1, w2, by simpa using hb.symm⟩
            conv => whnf
            repeat ((first | refine Hp.ld H 6 rfl rfl ?_ | refine iteT (by omega) ?_ | refine iteF (by omega) ?_ | refine iteET (by omega) ?_ | refine iteEF (by omega) ?_ | refine iteNT (by omega) ?_ | refine iteNF (by omega) ?_ | refine WrapK.i64 (by omega) (by omega) ?_ | refine Drawn.mk (by kernel_rfl) ?_); conv => whnf)
            refine CallK.mono (setgate_call H 2 (w.gl 2) _ _ (w.gc 2) (EntsV.keep he2 H.keep) (RowsV.keep hz2 H.keep) (by omega) (by omega)) ?_
            rintro _ h9 ⟨e, V1, B1, hr, rfl, P⟩
            have hr2 := gs.good (by omega) hr hg
            obtain ⟨rfl, gs1⟩ := hr2
            clear hr H
            have H := P
            clear P
            conv => whnf
            repeat ((first | refine Hp.ld H 6 rfl rfl ?_ | (refine Hp.st H 7 rfl rfl rfl rfl rfl ?_; intro h H) | refine iteT (by omega) ?_ | refine iteF (by omega) ?_ | refine iteET (by omega) ?_ | refine iteEF (by omega) ?_ | refine iteNT (by omega) ?_ | refine iteNF (by omega) ?_ | refine WrapK.i64 (by omega) (by omega) ?_ | refine Drawn.mk (by kernel_rfl) ?_); conv => whnf)
            have HH : Hp h0 _ (pjB g g2 g6 g7 bR bV bM w (wbox w A0 A1 A2 D0 D1 D2 a0c a1c a2c d0c d1c d2c) (.slice none 0 0) (othF 0) 0 0 0 0 [] V1 M B1 X 3 Z Y) := Hp.eqs H (by unfold pjB; rw [show gB w 3 2 = true from hg]; rfl)
            repeat clear H
            have H := HH
            clear HH
            by_cases cc : CfgOk (w.cf 2).a (w.cf 2).b (w.cf 2).c (w.cf 2).d
            · have hcf : cfB w 2 = true := decide_eq_true cc
              refine CallK.mono (new_ok_call _ _ _ _ _ cc) ?_
              rintro _ h10 ⟨q, Tq, rfl, kq, hqs, hqc⟩
              have hq : ∀ z ∈ Y, z.1 ≠ q := mss_lt (H.get 9 rfl) hqs
              have H2 := Hp.mss_new (m := MS.start (w.cf 2).a (w.cf 2).b (w.cf 2).c (w.cf 2).d) H 9 rfl kq hqs hqc
              have HH : Hp h0 _ (pjB g g2 g6 g7 bR bV bM w (wbox w A0 A1 A2 D0 D1 D2 a0c a1c a2c d0c d1c d2c) (.slice none 0 0) (othF 0) 0 0 0 0 [] V1 M B1 X 3 Z ((q, (MS.start (w.cf 2).a (w.cf 2).b (w.cf 2).c (w.cf 2).d)) :: Y)) := H2
              repeat clear H; clear H2
              have H := HH
              clear HH
              clear kq
              conv => whnf
              repeat ((first | refine Hp.ld H 6 rfl rfl ?_ | refine iteT (by omega) ?_ | refine iteF (by omega) ?_ | refine iteET (by omega) ?_ | refine iteEF (by omega) ?_ | refine iteNT (by omega) ?_ | refine iteNF (by omega) ?_ | refine WrapK.i64 (by omega) (by omega) ?_ | refine Drawn.mk (by kernel_rfl) ?_); conv => whnf)
              have HH : Hp h0 _ (Res.pol g (.slice none 0 0) (othF 0) bR bV bM 0 0 0 0 :: Res.mp pI Rul.enc bR [] :: Res.mp pI Vlv.enc bV V1 :: Res.mp pI ptrV bM M :: Res.mss X :: Res.bag B1 :: Res.ob g2 (.cells ((wbox w A0 A1 A2 D0 D1 D2 a0c a1c a2c d0c d1c d2c) : List Value).toArray 35 (0, 0)) :: Res.ob g6 (.cells ([.bool (gB w 3 0), .bool (gB w 3 1), .bool (gB w 3 2)] : List Value).toArray 40 (0, 0)) :: Res.ob g7 (.cells ([ptq Z 0, ptq Z 1, ptq Z 2] : List Value).toArray 42 (0, 0)) :: Res.mss ((q, (MS.start (w.cf 2).a (w.cf 2).b (w.cf 2).c (w.cf 2).d)) :: Y) :: []) := Hp.order H 10 [0, 1, 2, 3, 5, 4, 6, 7, 8, 9] (by decide) rfl
              repeat clear H
              have H := HH
              clear HH
              refine CallK.mono (setmeter_call H 2 _ _ _ _) ?_
              rintro _ h11 ⟨e, M1, X1, hr, rfl, P⟩
              have hr2 := setm_ok hr (by omega) (by omega) cc
              obtain ⟨rfl, b1, hb1, rfl, rfl⟩ := hr2
              have mz1 := mz.good hcf hb1 hq
              repeat clear H
              have H := P
              clear P
              have HH : Hp h0 _ (pjB g g2 g6 g7 bR bV bM w (wbox w A0 A1 A2 D0 D1 D2 a0c a1c a2c d0c d1c d2c) (.slice none 0 0) (othF 0) 0 0 0 0 [] V1 (mput 2 b1 M) B1 ((b1, (MS.start (w.cf 2).a (w.cf 2).b (w.cf 2).c (w.cf 2).d)) :: X) 3 Z ((q, (MS.start (w.cf 2).a (w.cf 2).b (w.cf 2).c (w.cf 2).d)) :: Y)) := Hp.order H 10 [0, 1, 2, 3, 5, 4, 6, 7, 8, 9] (by decide) rfl
              repeat clear H
              have H := HH
              clear HH
              conv => whnf
              repeat ((first | (refine Hp.st H 8 rfl rfl rfl rfl rfl ?_; intro h H) | refine iteT (by omega) ?_ | refine iteF (by omega) ?_ | refine iteET (by omega) ?_ | refine iteEF (by omega) ?_ | refine iteNT (by omega) ?_ | refine iteNF (by omega) ?_ | refine WrapK.i64 (by omega) (by omega) ?_ | refine Drawn.mk (by kernel_rfl) ?_); conv => whnf)
              have HH : Hp h0 _ (pjB g g2 g6 g7 bR bV bM w (wbox w A0 A1 A2 D0 D1 D2 a0c a1c a2c d0c d1c d2c) (.slice none 0 0) (othF 0) 0 0 0 0 [] V1 (mput 2 b1 M) B1 ((b1, (MS.start (w.cf 2).a (w.cf 2).b (w.cf 2).c (w.cf 2).d)) :: X) 3 (⟨2, b1, q, (MS.start (w.cf 2).a (w.cf 2).b (w.cf 2).c (w.cf 2).d)⟩ :: Z) ((q, (MS.start (w.cf 2).a (w.cf 2).b (w.cf 2).c (w.cf 2).d)) :: Y)) := H
              repeat clear H
              have H := HH
              clear HH
              exact ⟨(3, (V1, (mput 2 b1 M), B1), (((b1, (MS.start (w.cf 2).a (w.cf 2).b (w.cf 2).c (w.cf 2).d)) :: X), ((q, (MS.start (w.cf 2).a (w.cf 2).b (w.cf 2).c (w.cf 2).d)) :: Y), (⟨2, b1, q, (MS.start (w.cf 2).a (w.cf 2).b (w.cf 2).c (w.cf 2).d)⟩ :: Z))), ⟨(by first | rfl | (show Value.int .i64 _ = _; congr 1; omega) | (show Value.int .i64 _ = _; rw [wrap64_id (by omega) (by omega)]; first | rfl | (congr 1; omega))), trivial⟩, (by repeat (first | exact trivial | refine ⟨rfl, ?_⟩)), ⟨by show 3 ≤ 3; omega, gs1, mz1, H⟩, by show 3 - 3 < 3 - 2; omega⟩
            · have hcf : cfB w 2 = false := decide_eq_false cc
              refine CallK.mono (new_bad_call _ _ _ _ _ cc) ?_
              rintro _ h10 ⟨rfl, kq⟩
              replace H := H.and kq
              clear kq
              conv => whnf
              repeat ((first | refine Hp.ld H 6 rfl rfl ?_ | refine iteT (by omega) ?_ | refine iteF (by omega) ?_ | refine iteET (by omega) ?_ | refine iteEF (by omega) ?_ | refine iteNT (by omega) ?_ | refine iteNF (by omega) ?_ | refine WrapK.i64 (by omega) (by omega) ?_ | refine Drawn.mk (by kernel_rfl) ?_); conv => whnf)
              have HH : Hp h0 _ (Res.pol g (.slice none 0 0) (othF 0) bR bV bM 0 0 0 0 :: Res.mp pI Rul.enc bR [] :: Res.mp pI Vlv.enc bV V1 :: Res.mp pI ptrV bM M :: Res.mss X :: Res.bag B1 :: Res.ob g2 (.cells ((wbox w A0 A1 A2 D0 D1 D2 a0c a1c a2c d0c d1c d2c) : List Value).toArray 35 (0, 0)) :: Res.ob g6 (.cells ([.bool (gB w 3 0), .bool (gB w 3 1), .bool (gB w 3 2)] : List Value).toArray 40 (0, 0)) :: Res.ob g7 (.cells ([ptq Z 0, ptq Z 1, ptq Z 2] : List Value).toArray 42 (0, 0)) :: Res.mss Y :: []) := Hp.order H 10 [0, 1, 2, 3, 5, 4, 6, 7, 8, 9] (by decide) rfl
              repeat clear H
              have H := HH
              clear HH
              refine CallK.mono (setmeter_call H 2 _ _ _ _) ?_
              rintro _ h11 ⟨e, M1, X1, hr, rfl, P⟩
              have hr2 := setm_bad hr (by omega) (by omega) cc
              obtain ⟨rfl, rfl, rfl⟩ := hr2
              have mz1 := mz.bad hcf
              repeat clear H
              have H := P
              clear P
              have HH : Hp h0 _ (pjB g g2 g6 g7 bR bV bM w (wbox w A0 A1 A2 D0 D1 D2 a0c a1c a2c d0c d1c d2c) (.slice none 0 0) (othF 0) 0 0 0 0 [] V1 M1 B1 X1 3 Z Y) := Hp.order H 10 [0, 1, 2, 3, 5, 4, 6, 7, 8, 9] (by decide) rfl
              repeat clear H
              have H := HH
              clear HH
              conv => whnf
              repeat ((first | (refine Hp.st H 8 rfl rfl rfl rfl rfl ?_; intro h H) | refine iteT (by omega) ?_ | refine iteF (by omega) ?_ | refine iteET (by omega) ?_ | refine iteEF (by omega) ?_ | refine iteNT (by omega) ?_ | refine iteNF (by omega) ?_ | refine WrapK.i64 (by omega) (by omega) ?_ | refine Drawn.mk (by kernel_rfl) ?_); conv => whnf)
              have HH : Hp h0 _ (pjB g g2 g6 g7 bR bV bM w (wbox w A0 A1 A2 D0 D1 D2 a0c a1c a2c d0c d1c d2c) (.slice none 0 0) (othF 0) 0 0 0 0 [] V1 M1 B1 X1 3 Z Y) := Hp.eqs H (by unfold pjB; rw [ptq_no (fun z hz => by have := (mz.yes z hz).1; omega : ∀ z ∈ Z, z.n ≠ 2)]; rfl)
              repeat clear H
              have H := HH
              clear HH
              exact ⟨(3, (V1, M1, B1), (X1, Y, Z)), ⟨(by first | rfl | (show Value.int .i64 _ = _; congr 1; omega) | (show Value.int .i64 _ = _; rw [wrap64_id (by omega) (by omega)]; first | rfl | (congr 1; omega))), trivial⟩, (by repeat (first | exact trivial | refine ⟨rfl, ?_⟩)), ⟨by show 3 ≤ 3; omega, gs1, mz1, H⟩, by show 3 - 3 < 3 - 2; omega⟩
        · conv => whnf
          repeat ((first | refine Hp.ld H 6 rfl rfl ?_ | (refine Hp.st H 7 rfl rfl rfl rfl rfl ?_; intro h H) | (refine Hp.st H 8 rfl rfl rfl rfl rfl ?_; intro h H) | refine iteT (by omega) ?_ | refine iteF (by omega) ?_ | refine iteET (by omega) ?_ | refine iteEF (by omega) ?_ | refine iteNT (by omega) ?_ | refine iteNF (by omega) ?_ | refine WrapK.i64 (by omega) (by omega) ?_ | refine Drawn.mk (by kernel_rfl) ?_); conv => whnf)
          refine ⟨Nat × Bool, [0, 1, 2, 4, 5, 6, 7, 8, 12, 13, 14, 15, 16, 17, 18, 19, 20, 21, 23, 24, 25, 26, 27, 28, 30, 33, 35, 36, 52, 76, 77, 114, 135, 142, 143, 144, 156, 165, 166, 191, 192, 230, 232, 233, 234, 235, 257, 269, 272, 279, 284, 292, 293, 296, 299, 311, 345], fun q => [(78, .int .i64 (q.1 : Nat)), (9, .bool false)], fun q h' => q.1 ≤ (w.gc 2).length ∧ Hp h0 h' (pjB g g2 g6 g7 bR bV bM w (wbox w A0 A1 A2 D0 D1 D2 a0c a1c a2c d0c d1c d2c) (.slice none 0 0) (othF 0) 0 0 0 0 [] V M B X 2 Z Y), fun q => (w.gc 2).length - q.1, ?_⟩
          conv => whnf
          refine ⟨⟨(0, true), ⟨rfl, (by rw [show (((w.gc 2).length : Int) == ((w.gl 2).es.length : Int)) = false from beq_false_of_ne (by omega)]; rfl), trivial⟩, by show 0 ≤ _; omega, H⟩, ?_⟩
          clear H
          rintro ⟨j, b⟩ h8 ⟨jA, H⟩
          dsimp only at jA H ⊢
          by_cases cj : j < (w.gc 2).length
          · have hX := list_at (L := w.gc 2) (i := j) cj
            obtain ⟨c, hc⟩ := hX
            have hX := (RowsV.keep hz2 H.keep).some (by omega)
            obtain ⟨cb, co, hD⟩ := hX
            subst hD
            have hzj : IntsV h8 (.slice (some ⟨cb, co, none⟩) (w.gc 2).length d2c) (w.gc 2) := RowsV.keep hz2 H.keep
            conv => whnf
            repeat ((first | refine iteT (by omega) ?_ | refine iteF (by omega) ?_ | refine iteET (by omega) ?_ | refine iteEF (by omega) ?_ | refine iteNT (by omega) ?_ | refine iteNF (by omega) ?_ | refine WrapK.i64 (by omega) (by omega) ?_ | refine Drawn.mk (by kernel_rfl) ?_); conv => whnf)
            refine int_ld hzj hc rfl rfl rfl (by first | omega | (simp; done) | (simp; omega)) ?_
            conv => whnf
            repeat ((first | refine iteT (by omega) ?_ | refine iteF (by omega) ?_ | refine iteET (by omega) ?_ | refine iteEF (by omega) ?_ | refine iteNT (by omega) ?_ | refine iteNF (by omega) ?_ | refine WrapK.i64 (by omega) (by omega) ?_ | refine Drawn.mk (by kernel_rfl) ?_); conv => whnf)
            exact ⟨(j + 1, b), ⟨(by first | rfl | (show Value.int .i64 _ = _; congr 1; omega) | (show Value.int .i64 _ = _; rw [wrap64_id (by omega) (by omega)]; first | rfl | (congr 1; omega))), rfl, trivial⟩, (by repeat (first | exact trivial | refine ⟨rfl, ?_⟩)), ⟨by show j + 1 ≤ _; omega, H⟩, by show _ - (j + 1) < _ - j; omega⟩
          have e : j = (w.gc 2).length := by omega
          subst e
          have hg : goodB w 2 = false := by
            rw [Bool.eq_false_iff]
            exact (fun e => absurd (goodB_true.1 e).2.1 w2)
          conv => whnf
          repeat ((first | refine Hp.ld H 6 rfl rfl ?_ | refine iteT (by omega) ?_ | refine iteF (by omega) ?_ | refine iteET (by omega) ?_ | refine iteEF (by omega) ?_ | refine iteNT (by omega) ?_ | refine iteNF (by omega) ?_ | refine WrapK.i64 (by omega) (by omega) ?_ | refine Drawn.mk (by kernel_rfl) ?_); conv => whnf)
          refine CallK.mono (setgate_call H 2 (w.gl 2) _ _ (w.gc 2) (EntsV.keep he2 H.keep) (RowsV.keep hz2 H.keep) (by omega) (by omega)) ?_
          rintro _ h9 ⟨e, V1, B1, hr, rfl, P⟩
          have hr2 := gs.bad (by omega) hr hg
          obtain ⟨rfl, rfl, rfl, gs1⟩ := hr2
          clear hr H
          have H := P
          clear P
          conv => whnf
          repeat ((first | refine Hp.ld H 6 rfl rfl ?_ | (refine Hp.st H 7 rfl rfl rfl rfl rfl ?_; intro h H) | refine iteT (by omega) ?_ | refine iteF (by omega) ?_ | refine iteET (by omega) ?_ | refine iteEF (by omega) ?_ | refine iteNT (by omega) ?_ | refine iteNF (by omega) ?_ | refine WrapK.i64 (by omega) (by omega) ?_ | refine Drawn.mk (by kernel_rfl) ?_); conv => whnf)
          have HH : Hp h0 _ (pjB g g2 g6 g7 bR bV bM w (wbox w A0 A1 A2 D0 D1 D2 a0c a1c a2c d0c d1c d2c) (.slice none 0 0) (othF 0) 0 0 0 0 [] V1 M B1 X 3 Z Y) := Hp.eqs H (by unfold pjB; rw [show gB w 3 2 = false from hg]; rfl)
          repeat clear H
          have H := HH
          clear HH
          by_cases cc : CfgOk (w.cf 2).a (w.cf 2).b (w.cf 2).c (w.cf 2).d
          · have hcf : cfB w 2 = true := decide_eq_true cc
            refine CallK.mono (new_ok_call _ _ _ _ _ cc) ?_
            rintro _ h10 ⟨q, Tq, rfl, kq, hqs, hqc⟩
            have hq : ∀ z ∈ Y, z.1 ≠ q := mss_lt (H.get 9 rfl) hqs
            have H2 := Hp.mss_new (m := MS.start (w.cf 2).a (w.cf 2).b (w.cf 2).c (w.cf 2).d) H 9 rfl kq hqs hqc
            have HH : Hp h0 _ (pjB g g2 g6 g7 bR bV bM w (wbox w A0 A1 A2 D0 D1 D2 a0c a1c a2c d0c d1c d2c) (.slice none 0 0) (othF 0) 0 0 0 0 [] V1 M B1 X 3 Z ((q, (MS.start (w.cf 2).a (w.cf 2).b (w.cf 2).c (w.cf 2).d)) :: Y)) := H2
            repeat clear H; clear H2
            have H := HH
            clear HH
            clear kq
            conv => whnf
            repeat ((first | refine Hp.ld H 6 rfl rfl ?_ | refine iteT (by omega) ?_ | refine iteF (by omega) ?_ | refine iteET (by omega) ?_ | refine iteEF (by omega) ?_ | refine iteNT (by omega) ?_ | refine iteNF (by omega) ?_ | refine WrapK.i64 (by omega) (by omega) ?_ | refine Drawn.mk (by kernel_rfl) ?_); conv => whnf)
            have HH : Hp h0 _ (Res.pol g (.slice none 0 0) (othF 0) bR bV bM 0 0 0 0 :: Res.mp pI Rul.enc bR [] :: Res.mp pI Vlv.enc bV V1 :: Res.mp pI ptrV bM M :: Res.mss X :: Res.bag B1 :: Res.ob g2 (.cells ((wbox w A0 A1 A2 D0 D1 D2 a0c a1c a2c d0c d1c d2c) : List Value).toArray 35 (0, 0)) :: Res.ob g6 (.cells ([.bool (gB w 3 0), .bool (gB w 3 1), .bool (gB w 3 2)] : List Value).toArray 40 (0, 0)) :: Res.ob g7 (.cells ([ptq Z 0, ptq Z 1, ptq Z 2] : List Value).toArray 42 (0, 0)) :: Res.mss ((q, (MS.start (w.cf 2).a (w.cf 2).b (w.cf 2).c (w.cf 2).d)) :: Y) :: []) := Hp.order H 10 [0, 1, 2, 3, 5, 4, 6, 7, 8, 9] (by decide) rfl
            repeat clear H
            have H := HH
            clear HH
            refine CallK.mono (setmeter_call H 2 _ _ _ _) ?_
            rintro _ h11 ⟨e, M1, X1, hr, rfl, P⟩
            have hr2 := setm_ok hr (by omega) (by omega) cc
            obtain ⟨rfl, b1, hb1, rfl, rfl⟩ := hr2
            have mz1 := mz.good hcf hb1 hq
            repeat clear H
            have H := P
            clear P
            have HH : Hp h0 _ (pjB g g2 g6 g7 bR bV bM w (wbox w A0 A1 A2 D0 D1 D2 a0c a1c a2c d0c d1c d2c) (.slice none 0 0) (othF 0) 0 0 0 0 [] V1 (mput 2 b1 M) B1 ((b1, (MS.start (w.cf 2).a (w.cf 2).b (w.cf 2).c (w.cf 2).d)) :: X) 3 Z ((q, (MS.start (w.cf 2).a (w.cf 2).b (w.cf 2).c (w.cf 2).d)) :: Y)) := Hp.order H 10 [0, 1, 2, 3, 5, 4, 6, 7, 8, 9] (by decide) rfl
            repeat clear H
            have H := HH
            clear HH
            conv => whnf
            repeat ((first | (refine Hp.st H 8 rfl rfl rfl rfl rfl ?_; intro h H) | refine iteT (by omega) ?_ | refine iteF (by omega) ?_ | refine iteET (by omega) ?_ | refine iteEF (by omega) ?_ | refine iteNT (by omega) ?_ | refine iteNF (by omega) ?_ | refine WrapK.i64 (by omega) (by omega) ?_ | refine Drawn.mk (by kernel_rfl) ?_); conv => whnf)
            have HH : Hp h0 _ (pjB g g2 g6 g7 bR bV bM w (wbox w A0 A1 A2 D0 D1 D2 a0c a1c a2c d0c d1c d2c) (.slice none 0 0) (othF 0) 0 0 0 0 [] V1 (mput 2 b1 M) B1 ((b1, (MS.start (w.cf 2).a (w.cf 2).b (w.cf 2).c (w.cf 2).d)) :: X) 3 (⟨2, b1, q, (MS.start (w.cf 2).a (w.cf 2).b (w.cf 2).c (w.cf 2).d)⟩ :: Z) ((q, (MS.start (w.cf 2).a (w.cf 2).b (w.cf 2).c (w.cf 2).d)) :: Y)) := H
            repeat clear H
            have H := HH
            clear HH
            exact ⟨(3, (V1, (mput 2 b1 M), B1), (((b1, (MS.start (w.cf 2).a (w.cf 2).b (w.cf 2).c (w.cf 2).d)) :: X), ((q, (MS.start (w.cf 2).a (w.cf 2).b (w.cf 2).c (w.cf 2).d)) :: Y), (⟨2, b1, q, (MS.start (w.cf 2).a (w.cf 2).b (w.cf 2).c (w.cf 2).d)⟩ :: Z))), ⟨(by first | rfl | (show Value.int .i64 _ = _; congr 1; omega) | (show Value.int .i64 _ = _; rw [wrap64_id (by omega) (by omega)]; first | rfl | (congr 1; omega))), trivial⟩, (by repeat (first | exact trivial | refine ⟨rfl, ?_⟩)), ⟨by show 3 ≤ 3; omega, gs1, mz1, H⟩, by show 3 - 3 < 3 - 2; omega⟩
          · have hcf : cfB w 2 = false := decide_eq_false cc
            refine CallK.mono (new_bad_call _ _ _ _ _ cc) ?_
            rintro _ h10 ⟨rfl, kq⟩
            replace H := H.and kq
            clear kq
            conv => whnf
            repeat ((first | refine Hp.ld H 6 rfl rfl ?_ | refine iteT (by omega) ?_ | refine iteF (by omega) ?_ | refine iteET (by omega) ?_ | refine iteEF (by omega) ?_ | refine iteNT (by omega) ?_ | refine iteNF (by omega) ?_ | refine WrapK.i64 (by omega) (by omega) ?_ | refine Drawn.mk (by kernel_rfl) ?_); conv => whnf)
            have HH : Hp h0 _ (Res.pol g (.slice none 0 0) (othF 0) bR bV bM 0 0 0 0 :: Res.mp pI Rul.enc bR [] :: Res.mp pI Vlv.enc bV V1 :: Res.mp pI ptrV bM M :: Res.mss X :: Res.bag B1 :: Res.ob g2 (.cells ((wbox w A0 A1 A2 D0 D1 D2 a0c a1c a2c d0c d1c d2c) : List Value).toArray 35 (0, 0)) :: Res.ob g6 (.cells ([.bool (gB w 3 0), .bool (gB w 3 1), .bool (gB w 3 2)] : List Value).toArray 40 (0, 0)) :: Res.ob g7 (.cells ([ptq Z 0, ptq Z 1, ptq Z 2] : List Value).toArray 42 (0, 0)) :: Res.mss Y :: []) := Hp.order H 10 [0, 1, 2, 3, 5, 4, 6, 7, 8, 9] (by decide) rfl
            repeat clear H
            have H := HH
            clear HH
            refine CallK.mono (setmeter_call H 2 _ _ _ _) ?_
            rintro _ h11 ⟨e, M1, X1, hr, rfl, P⟩
            have hr2 := setm_bad hr (by omega) (by omega) cc
            obtain ⟨rfl, rfl, rfl⟩ := hr2
            have mz1 := mz.bad hcf
            repeat clear H
            have H := P
            clear P
            have HH : Hp h0 _ (pjB g g2 g6 g7 bR bV bM w (wbox w A0 A1 A2 D0 D1 D2 a0c a1c a2c d0c d1c d2c) (.slice none 0 0) (othF 0) 0 0 0 0 [] V1 M1 B1 X1 3 Z Y) := Hp.order H 10 [0, 1, 2, 3, 5, 4, 6, 7, 8, 9] (by decide) rfl
            repeat clear H
            have H := HH
            clear HH
            conv => whnf
            repeat ((first | (refine Hp.st H 8 rfl rfl rfl rfl rfl ?_; intro h H) | refine iteT (by omega) ?_ | refine iteF (by omega) ?_ | refine iteET (by omega) ?_ | refine iteEF (by omega) ?_ | refine iteNT (by omega) ?_ | refine iteNF (by omega) ?_ | refine WrapK.i64 (by omega) (by omega) ?_ | refine Drawn.mk (by kernel_rfl) ?_); conv => whnf)
            have HH : Hp h0 _ (pjB g g2 g6 g7 bR bV bM w (wbox w A0 A1 A2 D0 D1 D2 a0c a1c a2c d0c d1c d2c) (.slice none 0 0) (othF 0) 0 0 0 0 [] V1 M1 B1 X1 3 Z Y) := Hp.eqs H (by unfold pjB; rw [ptq_no (fun z hz => by have := (mz.yes z hz).1; omega : ∀ z ∈ Z, z.n ≠ 2)]; rfl)
            repeat clear H
            have H := HH
            clear HH
            exact ⟨(3, (V1, M1, B1), (X1, Y, Z)), ⟨(by first | rfl | (show Value.int .i64 _ = _; congr 1; omega) | (show Value.int .i64 _ = _; rw [wrap64_id (by omega) (by omega)]; first | rfl | (congr 1; omega))), trivial⟩, (by repeat (first | exact trivial | refine ⟨rfl, ?_⟩)), ⟨by show 3 ≤ 3; omega, gs1, mz1, H⟩, by show 3 - 3 < 3 - 2; omega⟩
      · rw [check_no w1] at ev
        subst ev
        conv => whnf
        repeat ((first | refine Hp.ld H 6 rfl rfl ?_ | (refine Hp.st H 7 rfl rfl rfl rfl rfl ?_; intro h H) | (refine Hp.st H 8 rfl rfl rfl rfl rfl ?_; intro h H) | refine iteT (by omega) ?_ | refine iteF (by omega) ?_ | refine iteET (by omega) ?_ | refine iteEF (by omega) ?_ | refine iteNT (by omega) ?_ | refine iteNF (by omega) ?_ | refine WrapK.i64 (by omega) (by omega) ?_ | refine Drawn.mk (by kernel_rfl) ?_); conv => whnf)
        refine ⟨Nat × Bool, [0, 1, 2, 4, 5, 6, 7, 8, 12, 13, 14, 15, 16, 17, 18, 19, 20, 21, 23, 24, 25, 26, 27, 28, 30, 33, 35, 36, 52, 76, 77, 114, 135, 142, 143, 144, 156, 165, 166, 191, 192, 230, 232, 233, 234, 235, 257, 269, 272, 279, 284, 292, 293, 296, 299, 311, 345], fun q => [(78, .int .i64 (q.1 : Nat)), (9, .bool false)], fun q h' => q.1 ≤ (w.gc 2).length ∧ Hp h0 h' (pjB g g2 g6 g7 bR bV bM w (wbox w A0 A1 A2 D0 D1 D2 a0c a1c a2c d0c d1c d2c) (.slice none 0 0) (othF 0) 0 0 0 0 [] V M B X 2 Z Y), fun q => (w.gc 2).length - q.1, ?_⟩
        conv => whnf
        refine ⟨⟨(0, true), ⟨rfl, rfl, trivial⟩, by show 0 ≤ _; omega, H⟩, ?_⟩
        clear H
        rintro ⟨j, b⟩ h8 ⟨jA, H⟩
        dsimp only at jA H ⊢
        by_cases cj : j < (w.gc 2).length
        · have hX := list_at (L := w.gc 2) (i := j) cj
          obtain ⟨c, hc⟩ := hX
          have hX := (RowsV.keep hz2 H.keep).some (by omega)
          obtain ⟨cb, co, hD⟩ := hX
          subst hD
          have hzj : IntsV h8 (.slice (some ⟨cb, co, none⟩) (w.gc 2).length d2c) (w.gc 2) := RowsV.keep hz2 H.keep
          conv => whnf
          repeat ((first | refine iteT (by omega) ?_ | refine iteF (by omega) ?_ | refine iteET (by omega) ?_ | refine iteEF (by omega) ?_ | refine iteNT (by omega) ?_ | refine iteNF (by omega) ?_ | refine WrapK.i64 (by omega) (by omega) ?_ | refine Drawn.mk (by kernel_rfl) ?_); conv => whnf)
          refine int_ld hzj hc rfl rfl rfl (by first | omega | (simp; done) | (simp; omega)) ?_
          conv => whnf
          repeat ((first | refine iteT (by omega) ?_ | refine iteF (by omega) ?_ | refine iteET (by omega) ?_ | refine iteEF (by omega) ?_ | refine iteNT (by omega) ?_ | refine iteNF (by omega) ?_ | refine WrapK.i64 (by omega) (by omega) ?_ | refine Drawn.mk (by kernel_rfl) ?_); conv => whnf)
          exact ⟨(j + 1, b), ⟨(by first | rfl | (show Value.int .i64 _ = _; congr 1; omega) | (show Value.int .i64 _ = _; rw [wrap64_id (by omega) (by omega)]; first | rfl | (congr 1; omega))), rfl, trivial⟩, (by repeat (first | exact trivial | refine ⟨rfl, ?_⟩)), ⟨by show j + 1 ≤ _; omega, H⟩, by show _ - (j + 1) < _ - j; omega⟩
        have e : j = (w.gc 2).length := by omega
        subst e
        have hg : goodB w 2 = false := by
          rw [Bool.eq_false_iff]
          exact (fun e => absurd (goodB_true.1 e).1 w1)
        conv => whnf
        repeat ((first | refine Hp.ld H 6 rfl rfl ?_ | refine iteT (by omega) ?_ | refine iteF (by omega) ?_ | refine iteET (by omega) ?_ | refine iteEF (by omega) ?_ | refine iteNT (by omega) ?_ | refine iteNF (by omega) ?_ | refine WrapK.i64 (by omega) (by omega) ?_ | refine Drawn.mk (by kernel_rfl) ?_); conv => whnf)
        refine CallK.mono (setgate_call H 2 (w.gl 2) _ _ (w.gc 2) (EntsV.keep he2 H.keep) (RowsV.keep hz2 H.keep) (by omega) (by omega)) ?_
        rintro _ h9 ⟨e, V1, B1, hr, rfl, P⟩
        have hr2 := gs.bad (by omega) hr hg
        obtain ⟨rfl, rfl, rfl, gs1⟩ := hr2
        clear hr H
        have H := P
        clear P
        conv => whnf
        repeat ((first | refine Hp.ld H 6 rfl rfl ?_ | (refine Hp.st H 7 rfl rfl rfl rfl rfl ?_; intro h H) | refine iteT (by omega) ?_ | refine iteF (by omega) ?_ | refine iteET (by omega) ?_ | refine iteEF (by omega) ?_ | refine iteNT (by omega) ?_ | refine iteNF (by omega) ?_ | refine WrapK.i64 (by omega) (by omega) ?_ | refine Drawn.mk (by kernel_rfl) ?_); conv => whnf)
        have HH : Hp h0 _ (pjB g g2 g6 g7 bR bV bM w (wbox w A0 A1 A2 D0 D1 D2 a0c a1c a2c d0c d1c d2c) (.slice none 0 0) (othF 0) 0 0 0 0 [] V1 M B1 X 3 Z Y) := Hp.eqs H (by unfold pjB; rw [show gB w 3 2 = false from hg]; rfl)
        repeat clear H
        have H := HH
        clear HH
        by_cases cc : CfgOk (w.cf 2).a (w.cf 2).b (w.cf 2).c (w.cf 2).d
        · have hcf : cfB w 2 = true := decide_eq_true cc
          refine CallK.mono (new_ok_call _ _ _ _ _ cc) ?_
          rintro _ h10 ⟨q, Tq, rfl, kq, hqs, hqc⟩
          have hq : ∀ z ∈ Y, z.1 ≠ q := mss_lt (H.get 9 rfl) hqs
          have H2 := Hp.mss_new (m := MS.start (w.cf 2).a (w.cf 2).b (w.cf 2).c (w.cf 2).d) H 9 rfl kq hqs hqc
          have HH : Hp h0 _ (pjB g g2 g6 g7 bR bV bM w (wbox w A0 A1 A2 D0 D1 D2 a0c a1c a2c d0c d1c d2c) (.slice none 0 0) (othF 0) 0 0 0 0 [] V1 M B1 X 3 Z ((q, (MS.start (w.cf 2).a (w.cf 2).b (w.cf 2).c (w.cf 2).d)) :: Y)) := H2
          repeat clear H; clear H2
          have H := HH
          clear HH
          clear kq
          conv => whnf
          repeat ((first | refine Hp.ld H 6 rfl rfl ?_ | refine iteT (by omega) ?_ | refine iteF (by omega) ?_ | refine iteET (by omega) ?_ | refine iteEF (by omega) ?_ | refine iteNT (by omega) ?_ | refine iteNF (by omega) ?_ | refine WrapK.i64 (by omega) (by omega) ?_ | refine Drawn.mk (by kernel_rfl) ?_); conv => whnf)
          have HH : Hp h0 _ (Res.pol g (.slice none 0 0) (othF 0) bR bV bM 0 0 0 0 :: Res.mp pI Rul.enc bR [] :: Res.mp pI Vlv.enc bV V1 :: Res.mp pI ptrV bM M :: Res.mss X :: Res.bag B1 :: Res.ob g2 (.cells ((wbox w A0 A1 A2 D0 D1 D2 a0c a1c a2c d0c d1c d2c) : List Value).toArray 35 (0, 0)) :: Res.ob g6 (.cells ([.bool (gB w 3 0), .bool (gB w 3 1), .bool (gB w 3 2)] : List Value).toArray 40 (0, 0)) :: Res.ob g7 (.cells ([ptq Z 0, ptq Z 1, ptq Z 2] : List Value).toArray 42 (0, 0)) :: Res.mss ((q, (MS.start (w.cf 2).a (w.cf 2).b (w.cf 2).c (w.cf 2).d)) :: Y) :: []) := Hp.order H 10 [0, 1, 2, 3, 5, 4, 6, 7, 8, 9] (by decide) rfl
          repeat clear H
          have H := HH
          clear HH
          refine CallK.mono (setmeter_call H 2 _ _ _ _) ?_
          rintro _ h11 ⟨e, M1, X1, hr, rfl, P⟩
          have hr2 := setm_ok hr (by omega) (by omega) cc
          obtain ⟨rfl, b1, hb1, rfl, rfl⟩ := hr2
          have mz1 := mz.good hcf hb1 hq
          repeat clear H
          have H := P
          clear P
          have HH : Hp h0 _ (pjB g g2 g6 g7 bR bV bM w (wbox w A0 A1 A2 D0 D1 D2 a0c a1c a2c d0c d1c d2c) (.slice none 0 0) (othF 0) 0 0 0 0 [] V1 (mput 2 b1 M) B1 ((b1, (MS.start (w.cf 2).a (w.cf 2).b (w.cf 2).c (w.cf 2).d)) :: X) 3 Z ((q, (MS.start (w.cf 2).a (w.cf 2).b (w.cf 2).c (w.cf 2).d)) :: Y)) := Hp.order H 10 [0, 1, 2, 3, 5, 4, 6, 7, 8, 9] (by decide) rfl
          repeat clear H
          have H := HH
          clear HH
          conv => whnf
          repeat ((first | (refine Hp.st H 8 rfl rfl rfl rfl rfl ?_; intro h H) | refine iteT (by omega) ?_ | refine iteF (by omega) ?_ | refine iteET (by omega) ?_ | refine iteEF (by omega) ?_ | refine iteNT (by omega) ?_ | refine iteNF (by omega) ?_ | refine WrapK.i64 (by omega) (by omega) ?_ | refine Drawn.mk (by kernel_rfl) ?_); conv => whnf)
          have HH : Hp h0 _ (pjB g g2 g6 g7 bR bV bM w (wbox w A0 A1 A2 D0 D1 D2 a0c a1c a2c d0c d1c d2c) (.slice none 0 0) (othF 0) 0 0 0 0 [] V1 (mput 2 b1 M) B1 ((b1, (MS.start (w.cf 2).a (w.cf 2).b (w.cf 2).c (w.cf 2).d)) :: X) 3 (⟨2, b1, q, (MS.start (w.cf 2).a (w.cf 2).b (w.cf 2).c (w.cf 2).d)⟩ :: Z) ((q, (MS.start (w.cf 2).a (w.cf 2).b (w.cf 2).c (w.cf 2).d)) :: Y)) := H
          repeat clear H
          have H := HH
          clear HH
          exact ⟨(3, (V1, (mput 2 b1 M), B1), (((b1, (MS.start (w.cf 2).a (w.cf 2).b (w.cf 2).c (w.cf 2).d)) :: X), ((q, (MS.start (w.cf 2).a (w.cf 2).b (w.cf 2).c (w.cf 2).d)) :: Y), (⟨2, b1, q, (MS.start (w.cf 2).a (w.cf 2).b (w.cf 2).c (w.cf 2).d)⟩ :: Z))), ⟨(by first | rfl | (show Value.int .i64 _ = _; congr 1; omega) | (show Value.int .i64 _ = _; rw [wrap64_id (by omega) (by omega)]; first | rfl | (congr 1; omega))), trivial⟩, (by repeat (first | exact trivial | refine ⟨rfl, ?_⟩)), ⟨by show 3 ≤ 3; omega, gs1, mz1, H⟩, by show 3 - 3 < 3 - 2; omega⟩
        · have hcf : cfB w 2 = false := decide_eq_false cc
          refine CallK.mono (new_bad_call _ _ _ _ _ cc) ?_
          rintro _ h10 ⟨rfl, kq⟩
          replace H := H.and kq
          clear kq
          conv => whnf
          repeat ((first | refine Hp.ld H 6 rfl rfl ?_ | refine iteT (by omega) ?_ | refine iteF (by omega) ?_ | refine iteET (by omega) ?_ | refine iteEF (by omega) ?_ | refine iteNT (by omega) ?_ | refine iteNF (by omega) ?_ | refine WrapK.i64 (by omega) (by omega) ?_ | refine Drawn.mk (by kernel_rfl) ?_); conv => whnf)
          have HH : Hp h0 _ (Res.pol g (.slice none 0 0) (othF 0) bR bV bM 0 0 0 0 :: Res.mp pI Rul.enc bR [] :: Res.mp pI Vlv.enc bV V1 :: Res.mp pI ptrV bM M :: Res.mss X :: Res.bag B1 :: Res.ob g2 (.cells ((wbox w A0 A1 A2 D0 D1 D2 a0c a1c a2c d0c d1c d2c) : List Value).toArray 35 (0, 0)) :: Res.ob g6 (.cells ([.bool (gB w 3 0), .bool (gB w 3 1), .bool (gB w 3 2)] : List Value).toArray 40 (0, 0)) :: Res.ob g7 (.cells ([ptq Z 0, ptq Z 1, ptq Z 2] : List Value).toArray 42 (0, 0)) :: Res.mss Y :: []) := Hp.order H 10 [0, 1, 2, 3, 5, 4, 6, 7, 8, 9] (by decide) rfl
          repeat clear H
          have H := HH
          clear HH
          refine CallK.mono (setmeter_call H 2 _ _ _ _) ?_
          rintro _ h11 ⟨e, M1, X1, hr, rfl, P⟩
          have hr2 := setm_bad hr (by omega) (by omega) cc
          obtain ⟨rfl, rfl, rfl⟩ := hr2
          have mz1 := mz.bad hcf
          repeat clear H
          have H := P
          clear P
          have HH : Hp h0 _ (pjB g g2 g6 g7 bR bV bM w (wbox w A0 A1 A2 D0 D1 D2 a0c a1c a2c d0c d1c d2c) (.slice none 0 0) (othF 0) 0 0 0 0 [] V1 M1 B1 X1 3 Z Y) := Hp.order H 10 [0, 1, 2, 3, 5, 4, 6, 7, 8, 9] (by decide) rfl
          repeat clear H
          have H := HH
          clear HH
          conv => whnf
          repeat ((first | (refine Hp.st H 8 rfl rfl rfl rfl rfl ?_; intro h H) | refine iteT (by omega) ?_ | refine iteF (by omega) ?_ | refine iteET (by omega) ?_ | refine iteEF (by omega) ?_ | refine iteNT (by omega) ?_ | refine iteNF (by omega) ?_ | refine WrapK.i64 (by omega) (by omega) ?_ | refine Drawn.mk (by kernel_rfl) ?_); conv => whnf)
          have HH : Hp h0 _ (pjB g g2 g6 g7 bR bV bM w (wbox w A0 A1 A2 D0 D1 D2 a0c a1c a2c d0c d1c d2c) (.slice none 0 0) (othF 0) 0 0 0 0 [] V1 M1 B1 X1 3 Z Y) := Hp.eqs H (by unfold pjB; rw [ptq_no (fun z hz => by have := (mz.yes z hz).1; omega : ∀ z ∈ Z, z.n ≠ 2)]; rfl)
          repeat clear H
          have H := HH
          clear HH
          exact ⟨(3, (V1, M1, B1), (X1, Y, Z)), ⟨(by first | rfl | (show Value.int .i64 _ = _; congr 1; omega) | (show Value.int .i64 _ = _; rw [wrap64_id (by omega) (by omega)]; first | rfl | (congr 1; omega))), trivial⟩, (by repeat (first | exact trivial | refine ⟨rfl, ?_⟩)), ⟨by show 3 ≤ 3; omega, gs1, mz1, H⟩, by show 3 - 3 < 3 - 2; omega⟩
  conv => whnf
  repeat ((first | refine iteT (by omega) ?_ | refine iteF (by omega) ?_ | refine iteET (by omega) ?_ | refine iteEF (by omega) ?_ | refine iteNT (by omega) ?_ | refine iteNF (by omega) ?_ | refine WrapK.i64 (by omega) (by omega) ?_ | refine Drawn.mk (by kernel_rfl) ?_); conv => whnf)
  intro bT h7 N
  replace H := Hp.fresh_map (enc := pI) (f := Rul.enc) (H.new N)
  clear N
  conv => whnf
  repeat ((first | refine Hp.ld H 7 rfl rfl ?_ | refine iteT (by omega) ?_ | refine iteF (by omega) ?_ | refine iteET (by omega) ?_ | refine iteEF (by omega) ?_ | refine iteNT (by omega) ?_ | refine iteNF (by omega) ?_ | refine WrapK.i64 (by omega) (by omega) ?_ | refine Drawn.mk (by kernel_rfl) ?_); conv => whnf)
  have HH : Hp h0 _ (Res.mp pI Rul.enc bT [] :: (pjB g g2 g6 g7 bR bV bM w (wbox w A0 A1 A2 D0 D1 D2 a0c a1c a2c d0c d1c d2c) (.slice none 0 0) (othF 0) 0 0 0 0 [] V M B X 3 Z Y)) := H
  repeat clear H
  have H := HH
  clear HH
  have HH : Hp h0 _ (pjB g g2 g6 g7 bR bV bM w (wbox w A0 A1 A2 D0 D1 D2 a0c a1c a2c d0c d1c d2c) (.slice none 0 0) (othF 0) 0 0 0 0 [] V M B X 3 Z Y ++ (Res.mp pI Rul.enc bT [] :: [])) := Hp.order H 11 [1, 2, 3, 4, 5, 6, 7, 8, 9, 10, 0] (by decide) rfl
  repeat clear H
  have H := HH
  clear HH
  refine ⟨Nat × Value × RM, [0, 1, 2, 5, 6, 7, 8, 9, 11, 12, 13, 14, 15, 16, 20, 21, 23, 24, 25, 26, 27, 28, 30, 33, 35, 36, 52, 76, 77, 78, 79, 114, 135, 142, 232, 233, 234, 235, 257, 269, 272, 279, 284, 292, 293, 296, 299, 311, 345], fun q => [(143, .int .i64 (q.1 : Nat))], fun q h' => q.1 ≤ 4 ∧ q.2.2.length ≤ q.1 ∧ GR w q.2.2 ∧ Hp h0 h' (pjB g g2 g6 g7 bR bV bM w (wbox w A0 A1 A2 D0 D1 D2 a0c a1c a2c d0c d1c d2c) q.2.1 (othF q.1) 0 0 0 0 q.2.2 V M B X 3 Z Y ++ (Res.mp pI Rul.enc bT q.2.2 :: [])), fun q => 4 - q.1, ?_⟩
  conv => whnf
  refine ⟨⟨(0, .slice none 0 0, []), ⟨rfl, trivial⟩, by show 0 ≤ 4; omega, Nat.le_refl _, GR.start w, H⟩, ?_⟩
  clear H
  rintro ⟨j, s, R⟩ h8 ⟨jA, hR, gr, H⟩
  dsimp only at jA hR gr H ⊢
  by_cases cj : j < 4
  · have hX : ∃ r, w.rl j = r := ⟨_, rfl⟩
    obtain ⟨r, hr⟩ := hX
    obtain ⟨rm, rg, rt⟩ := r
    conv => whnf
    repeat ((first | refine iteT (by omega) ?_ | refine iteF (by omega) ?_ | refine iteET (by omega) ?_ | refine iteEF (by omega) ?_ | refine iteNT (by omega) ?_ | refine iteNF (by omega) ?_ | refine WrapK.i64 (by omega) (by omega) ?_ | refine Drawn.mk (by kernel_rfl) ?_); conv => whnf)
    generalize hz : takeL (2 + 1) (dropL _ _) = z
    have ez : z = some [.int .i64 rm, .int .i64 rg, .int .i64 rt] := by
      rw [← hz]
      have hX : j = 0 ∨ j = 1 ∨ j = 2 ∨ j = 3 := by omega
      rcases hX with rfl | rfl | rfl | rfl
      · show some [Value.int .i64 (w.rl 0).most, Value.int .i64 (w.rl 0).gate, Value.int .i64 (w.rl 0).meter] = _
        rw [hr]
      · show some [Value.int .i64 (w.rl 1).most, Value.int .i64 (w.rl 1).gate, Value.int .i64 (w.rl 1).meter] = _
        rw [hr]
      · show some [Value.int .i64 (w.rl 2).most, Value.int .i64 (w.rl 2).gate, Value.int .i64 (w.rl 2).meter] = _
        rw [hr]
      · show some [Value.int .i64 (w.rl 3).most, Value.int .i64 (w.rl 3).gate, Value.int .i64 (w.rl 3).meter] = _
        rw [hr]
    clear hz
    subst ez
    conv => whnf
    intro g18 h9 N
    replace H := H.new N
    clear N
    conv => whnf
    repeat ((first | (refine Hp.st H 0 rfl rfl rfl rfl rfl ?_; intro h H) | refine iteT (by omega) ?_ | refine iteF (by omega) ?_ | refine iteET (by omega) ?_ | refine iteEF (by omega) ?_ | refine iteNT (by omega) ?_ | refine iteNF (by omega) ?_ | refine WrapK.i64 (by omega) (by omega) ?_ | refine Drawn.mk (by kernel_rfl) ?_); conv => whnf)
    have HH : Hp h0 _ (zR g18 rm rg rt :: (pjB g g2 g6 g7 bR bV bM w (wbox w A0 A1 A2 D0 D1 D2 a0c a1c a2c d0c d1c d2c) s (othF j) 0 0 0 0 R V M B X 3 Z Y ++ (Res.mp pI Rul.enc bT R :: []))) := H
    repeat clear H
    have H := HH
    clear HH
    have HH : Hp h0 _ (pjB g g2 g6 g7 bR bV bM w (wbox w A0 A1 A2 D0 D1 D2 a0c a1c a2c d0c d1c d2c) s (othF j) 0 0 0 0 R V M B X 3 Z Y ++ (Res.mp pI Rul.enc bT R :: zR g18 rm rg rt :: [])) := Hp.order H 12 [1, 2, 3, 4, 5, 6, 7, 8, 9, 10, 11, 0] (by decide) rfl
    repeat clear H
    have H := HH
    clear HH
    refine WrapK.u8 (by omega) (by omega) ?_
    conv => whnf
    repeat (first | (refine FillK.row rfl ?_; conv => whnf) | (refine FillK.lit rfl ?_; conv => whnf))
    conv => whnf
    repeat ((first | refine iteT (by omega) ?_ | refine iteF (by omega) ?_ | refine iteET (by omega) ?_ | refine iteEF (by omega) ?_ | refine iteNT (by omega) ?_ | refine iteNF (by omega) ?_ | refine WrapK.i64 (by omega) (by omega) ?_ | refine Drawn.mk (by kernel_rfl) ?_); conv => whnf)
    repeat (first | (refine FillK.row rfl ?_; conv => whnf) | (refine FillK.lit rfl ?_; conv => whnf))
    conv => whnf
    repeat ((first | refine iteT (by omega) ?_ | refine iteF (by omega) ?_ | refine iteET (by omega) ?_ | refine iteEF (by omega) ?_ | refine iteNT (by omega) ?_ | refine iteNF (by omega) ?_ | refine WrapK.i64 (by omega) (by omega) ?_ | refine Drawn.mk (by kernel_rfl) ?_); conv => whnf)
    have d1 := padd_call H 0 g s (othF j) rfl (oF j) (by rw [othF_length]; omega)
    rw [oF_cells cj, oth_add cj] at d1
    refine CallK.mono d1 ?_
    clear d1
    rintro v h10 ⟨ev, s1, P⟩
    have ev2 : v = .int .i64 ((0 : Nat) : Int) := ev
    clear ev
    subst ev2
    have HH : Hp h0 _ (pjB g g2 g6 g7 bR bV bM w (wbox w A0 A1 A2 D0 D1 D2 a0c a1c a2c d0c d1c d2c) s1 (othF (j + 1)) 0 0 0 0 R V M B X 3 Z Y ++ (Res.mp pI Rul.enc bT R :: zR g18 rm rg rt :: [])) := P
    repeat clear H; clear P
    have H := HH
    clear HH
    conv => whnf
    repeat ((first | refine Hp.ld H 11 rfl rfl ?_ | refine iteT (by omega) ?_ | refine iteF (by omega) ?_ | refine iteET (by omega) ?_ | refine iteEF (by omega) ?_ | refine iteNT (by omega) ?_ | refine iteNF (by omega) ?_ | refine WrapK.i64 (by omega) (by omega) ?_ | refine Drawn.mk (by kernel_rfl) ?_); conv => whnf)
    refine CallK.mono (setrule_call H j ⟨rm, rg, rt⟩ gs.gv (by omega)) ?_
    rintro _ h11 ⟨e, R1, hs, rfl, P⟩
    by_cases c0 : rm < 0
    · have hs2 := srule_wide hs (by unfold Rul.wide; dsimp only; omega)
      obtain ⟨he, hR1⟩ := hs2
      subst he
      rw [hR1] at P
      clear hR1
      have HH : Hp h0 _ (pjB g g2 g6 g7 bR bV bM w (wbox w A0 A1 A2 D0 D1 D2 a0c a1c a2c d0c d1c d2c) s1 (othF (j + 1)) 0 0 0 0 R V M B X 3 Z Y ++ (Res.mp pI Rul.enc bT R :: zR g18 rm rg rt :: [])) := P
      repeat clear H; clear P hs
      have H := HH
      clear HH
      conv => whnf
      repeat ((first | refine Hp.ld H 11 rfl rfl ?_ | refine iteT (by omega) ?_ | refine iteF (by omega) ?_ | refine iteET (by omega) ?_ | refine iteEF (by omega) ?_ | refine iteNT (by omega) ?_ | refine iteNF (by omega) ?_ | refine WrapK.i64 (by omega) (by omega) ?_ | refine Drawn.mk (by kernel_rfl) ?_); conv => whnf)
      exact ⟨(j + 1, s1, R), ⟨(by first | rfl | (show Value.int .i64 _ = _; congr 1; omega) | (show Value.int .i64 _ = _; rw [wrap64_id (by omega) (by omega)]; first | rfl | (congr 1; omega))), trivial⟩, (by repeat (first | exact trivial | refine ⟨rfl, ?_⟩)), ⟨by show j + 1 ≤ 4; omega, by show R.length ≤ j + 1; omega, gr, H.drop 11⟩, by show 4 - (j + 1) < 4 - j; omega⟩
    by_cases c1 : rg < -1
    · have hs2 := srule_wide hs (by unfold Rul.wide; dsimp only; omega)
      obtain ⟨he, hR1⟩ := hs2
      subst he
      rw [hR1] at P
      clear hR1
      have HH : Hp h0 _ (pjB g g2 g6 g7 bR bV bM w (wbox w A0 A1 A2 D0 D1 D2 a0c a1c a2c d0c d1c d2c) s1 (othF (j + 1)) 0 0 0 0 R V M B X 3 Z Y ++ (Res.mp pI Rul.enc bT R :: zR g18 rm rg rt :: [])) := P
      repeat clear H; clear P hs
      have H := HH
      clear HH
      conv => whnf
      repeat ((first | refine Hp.ld H 11 rfl rfl ?_ | refine iteT (by omega) ?_ | refine iteF (by omega) ?_ | refine iteET (by omega) ?_ | refine iteEF (by omega) ?_ | refine iteNT (by omega) ?_ | refine iteNF (by omega) ?_ | refine WrapK.i64 (by omega) (by omega) ?_ | refine Drawn.mk (by kernel_rfl) ?_); conv => whnf)
      exact ⟨(j + 1, s1, R), ⟨(by first | rfl | (show Value.int .i64 _ = _; congr 1; omega) | (show Value.int .i64 _ = _; rw [wrap64_id (by omega) (by omega)]; first | rfl | (congr 1; omega))), trivial⟩, (by repeat (first | exact trivial | refine ⟨rfl, ?_⟩)), ⟨by show j + 1 ≤ 4; omega, by show R.length ≤ j + 1; omega, gr, H.drop 11⟩, by show 4 - (j + 1) < 4 - j; omega⟩
    by_cases c2 : rg > 31
    · have hs2 := srule_wide hs (by unfold Rul.wide; dsimp only; omega)
      obtain ⟨he, hR1⟩ := hs2
      subst he
      rw [hR1] at P
      clear hR1
      have HH : Hp h0 _ (pjB g g2 g6 g7 bR bV bM w (wbox w A0 A1 A2 D0 D1 D2 a0c a1c a2c d0c d1c d2c) s1 (othF (j + 1)) 0 0 0 0 R V M B X 3 Z Y ++ (Res.mp pI Rul.enc bT R :: zR g18 rm rg rt :: [])) := P
      repeat clear H; clear P hs
      have H := HH
      clear HH
      conv => whnf
      repeat ((first | refine Hp.ld H 11 rfl rfl ?_ | refine iteT (by omega) ?_ | refine iteF (by omega) ?_ | refine iteET (by omega) ?_ | refine iteEF (by omega) ?_ | refine iteNT (by omega) ?_ | refine iteNF (by omega) ?_ | refine WrapK.i64 (by omega) (by omega) ?_ | refine Drawn.mk (by kernel_rfl) ?_); conv => whnf)
      exact ⟨(j + 1, s1, R), ⟨(by first | rfl | (show Value.int .i64 _ = _; congr 1; omega) | (show Value.int .i64 _ = _; rw [wrap64_id (by omega) (by omega)]; first | rfl | (congr 1; omega))), trivial⟩, (by repeat (first | exact trivial | refine ⟨rfl, ?_⟩)), ⟨by show j + 1 ≤ 4; omega, by show R.length ≤ j + 1; omega, gr, H.drop 11⟩, by show 4 - (j + 1) < 4 - j; omega⟩
    by_cases c3 : rt < -1
    · have hs2 := srule_wide hs (by unfold Rul.wide; dsimp only; omega)
      obtain ⟨he, hR1⟩ := hs2
      subst he
      rw [hR1] at P
      clear hR1
      have HH : Hp h0 _ (pjB g g2 g6 g7 bR bV bM w (wbox w A0 A1 A2 D0 D1 D2 a0c a1c a2c d0c d1c d2c) s1 (othF (j + 1)) 0 0 0 0 R V M B X 3 Z Y ++ (Res.mp pI Rul.enc bT R :: zR g18 rm rg rt :: [])) := P
      repeat clear H; clear P hs
      have H := HH
      clear HH
      conv => whnf
      repeat ((first | refine Hp.ld H 11 rfl rfl ?_ | refine iteT (by omega) ?_ | refine iteF (by omega) ?_ | refine iteET (by omega) ?_ | refine iteEF (by omega) ?_ | refine iteNT (by omega) ?_ | refine iteNF (by omega) ?_ | refine WrapK.i64 (by omega) (by omega) ?_ | refine Drawn.mk (by kernel_rfl) ?_); conv => whnf)
      exact ⟨(j + 1, s1, R), ⟨(by first | rfl | (show Value.int .i64 _ = _; congr 1; omega) | (show Value.int .i64 _ = _; rw [wrap64_id (by omega) (by omega)]; first | rfl | (congr 1; omega))), trivial⟩, (by repeat (first | exact trivial | refine ⟨rfl, ?_⟩)), ⟨by show j + 1 ≤ 4; omega, by show R.length ≤ j + 1; omega, gr, H.drop 11⟩, by show 4 - (j + 1) < 4 - j; omega⟩
    by_cases c4 : rt > 31
    · have hs2 := srule_wide hs (by unfold Rul.wide; dsimp only; omega)
      obtain ⟨he, hR1⟩ := hs2
      subst he
      rw [hR1] at P
      clear hR1
      have HH : Hp h0 _ (pjB g g2 g6 g7 bR bV bM w (wbox w A0 A1 A2 D0 D1 D2 a0c a1c a2c d0c d1c d2c) s1 (othF (j + 1)) 0 0 0 0 R V M B X 3 Z Y ++ (Res.mp pI Rul.enc bT R :: zR g18 rm rg rt :: [])) := P
      repeat clear H; clear P hs
      have H := HH
      clear HH
      conv => whnf
      repeat ((first | refine Hp.ld H 11 rfl rfl ?_ | refine iteT (by omega) ?_ | refine iteF (by omega) ?_ | refine iteET (by omega) ?_ | refine iteEF (by omega) ?_ | refine iteNT (by omega) ?_ | refine iteNF (by omega) ?_ | refine WrapK.i64 (by omega) (by omega) ?_ | refine Drawn.mk (by kernel_rfl) ?_); conv => whnf)
      exact ⟨(j + 1, s1, R), ⟨(by first | rfl | (show Value.int .i64 _ = _; congr 1; omega) | (show Value.int .i64 _ = _; rw [wrap64_id (by omega) (by omega)]; first | rfl | (congr 1; omega))), trivial⟩, (by repeat (first | exact trivial | refine ⟨rfl, ?_⟩)), ⟨by show j + 1 ≤ 4; omega, by show R.length ≤ j + 1; omega, gr, H.drop 11⟩, by show 4 - (j + 1) < 4 - j; omega⟩
    have nw : ¬ Rul.wide ⟨rm, rg, rt⟩ j := by unfold Rul.wide; dsimp only; omega
    by_cases d1 : rg > 2
    · have hs2 := srule_lack hs nw (lack_gate gs (by dsimp only; omega) (fun n hn e => by dsimp only at e; omega))
      obtain ⟨he, hR1⟩ := hs2
      subst he
      rw [hR1] at P
      clear hR1
      have HH : Hp h0 _ (pjB g g2 g6 g7 bR bV bM w (wbox w A0 A1 A2 D0 D1 D2 a0c a1c a2c d0c d1c d2c) s1 (othF (j + 1)) 0 0 0 0 R V M B X 3 Z Y ++ (Res.mp pI Rul.enc bT R :: zR g18 rm rg rt :: [])) := P
      repeat clear H; clear P hs
      have H := HH
      clear HH
      conv => whnf
      repeat ((first | refine Hp.ld H 11 rfl rfl ?_ | refine iteT (by omega) ?_ | refine iteF (by omega) ?_ | refine iteET (by omega) ?_ | refine iteEF (by omega) ?_ | refine iteNT (by omega) ?_ | refine iteNF (by omega) ?_ | refine WrapK.i64 (by omega) (by omega) ?_ | refine Drawn.mk (by kernel_rfl) ?_); conv => whnf)
      exact ⟨(j + 1, s1, R), ⟨(by first | rfl | (show Value.int .i64 _ = _; congr 1; omega) | (show Value.int .i64 _ = _; rw [wrap64_id (by omega) (by omega)]; first | rfl | (congr 1; omega))), trivial⟩, (by repeat (first | exact trivial | refine ⟨rfl, ?_⟩)), ⟨by show j + 1 ≤ 4; omega, by show R.length ≤ j + 1; omega, gr, H.drop 11⟩, by show 4 - (j + 1) < 4 - j; omega⟩
    have hX : rg < 0 ∨ ∃ n : Nat, n < 3 ∧ rg = n := by
      rcases Int.lt_or_le rg 0 with h | h
      · exact .inl h
      · exact .inr ⟨rg.toNat, by omega, by omega⟩
    have hY : rt < 0 ∨ rt > 2 ∨ ∃ n : Nat, n < 3 ∧ rt = n := by
      rcases Int.lt_or_le rt 0 with h | h
      · exact .inl h
      · rcases Int.lt_or_le 2 rt with h2 | h2
        · exact .inr (.inl h2)
        · exact .inr (.inr ⟨rt.toNat, by omega, by omega⟩)
    rcases hX with hg0 | ⟨n, hn3, hgn⟩
    · have hog : okG w rg := .inl hg0
      rcases hY with ht0 | ht2 | ⟨m, hm3, hmt⟩
      · have hom : okM w rt := .inl ht0
        have hs2 := srule_ok hs nw (no_lack gs mz hog hom) (by omega)
        obtain ⟨he, hR1⟩ := hs2
        subst he
        rw [hR1] at P
        clear hR1
        have HH : Hp h0 _ (pjB g g2 g6 g7 bR bV bM w (wbox w A0 A1 A2 D0 D1 D2 a0c a1c a2c d0c d1c d2c) s1 (othF (j + 1)) 0 0 0 0 (mput (j : Int) ⟨rm, rg, rt⟩ R) V M B X 3 Z Y ++ (Res.mp pI Rul.enc bT R :: zR g18 rm rg rt :: [])) := P
        repeat clear H; clear P hs
        have H := HH
        clear HH
        conv => whnf
        repeat ((first | refine Hp.ld H 11 rfl rfl ?_ | refine iteT (by omega) ?_ | refine iteF (by omega) ?_ | refine iteET (by omega) ?_ | refine iteEF (by omega) ?_ | refine iteNT (by omega) ?_ | refine iteNF (by omega) ?_ | refine WrapK.i64 (by omega) (by omega) ?_ | refine Drawn.mk (by kernel_rfl) ?_); conv => whnf)
        refine Hp.mapPut (EA_ok _) H 10 rfl (pkey_okA _) (k := (j : Int)) (a := ⟨rm, rg, rt⟩) rfl rfl rfl rfl rfl ?_
        clear H
        intro h12 H
        conv => whnf
        repeat ((first | refine iteT (by omega) ?_ | refine iteF (by omega) ?_ | refine iteET (by omega) ?_ | refine iteEF (by omega) ?_ | refine iteNT (by omega) ?_ | refine iteNF (by omega) ?_ | refine WrapK.i64 (by omega) (by omega) ?_ | refine Drawn.mk (by kernel_rfl) ?_); conv => whnf)
        exact ⟨(j + 1, s1, mput (j : Int) ⟨rm, rg, rt⟩ R), ⟨(by first | rfl | (show Value.int .i64 _ = _; congr 1; omega) | (show Value.int .i64 _ = _; rw [wrap64_id (by omega) (by omega)]; first | rfl | (congr 1; omega))), trivial⟩, (by repeat (first | exact trivial | refine ⟨rfl, ?_⟩)), ⟨by show j + 1 ≤ 4; omega, by have := mput_len (n := (j : Int)) (a := (⟨rm, rg, rt⟩ : Rul)) (L := R); show (mput (j : Int) ⟨rm, rg, rt⟩ R).length ≤ j + 1; omega, gr.step hog hom, H.drop 11⟩, by show 4 - (j + 1) < 4 - j; omega⟩
      · have hs2 := srule_lack hs nw (lack_meter mz (by dsimp only; omega) (fun m hm e => by dsimp only at e; omega))
        obtain ⟨he, hR1⟩ := hs2
        subst he
        rw [hR1] at P
        clear hR1
        have HH : Hp h0 _ (pjB g g2 g6 g7 bR bV bM w (wbox w A0 A1 A2 D0 D1 D2 a0c a1c a2c d0c d1c d2c) s1 (othF (j + 1)) 0 0 0 0 R V M B X 3 Z Y ++ (Res.mp pI Rul.enc bT R :: zR g18 rm rg rt :: [])) := P
        repeat clear H; clear P hs
        have H := HH
        clear HH
        conv => whnf
        repeat ((first | refine Hp.ld H 11 rfl rfl ?_ | refine iteT (by omega) ?_ | refine iteF (by omega) ?_ | refine iteET (by omega) ?_ | refine iteEF (by omega) ?_ | refine iteNT (by omega) ?_ | refine iteNF (by omega) ?_ | refine WrapK.i64 (by omega) (by omega) ?_ | refine Drawn.mk (by kernel_rfl) ?_); conv => whnf)
        exact ⟨(j + 1, s1, R), ⟨(by first | rfl | (show Value.int .i64 _ = _; congr 1; omega) | (show Value.int .i64 _ = _; rw [wrap64_id (by omega) (by omega)]; first | rfl | (congr 1; omega))), trivial⟩, (by repeat (first | exact trivial | refine ⟨rfl, ?_⟩)), ⟨by show j + 1 ≤ 4; omega, by show R.length ≤ j + 1; omega, gr, H.drop 11⟩, by show 4 - (j + 1) < 4 - j; omega⟩
      · subst hmt
        have hX : cfB w m = true ∨ cfB w m = false := by cases cfB w m <;> simp
        rcases hX with hcf | hcf
        · have hX := mz.all m hm3 hcf
          obtain ⟨z, hz, ez⟩ := hX
          have hp : ptq Z m = ptrV z.q := by rw [← ez]; exact ptq_mem mz.dn hz
          have hom : okM w m := .inr ⟨m, hm3, rfl, hcf⟩
          have hs2 := srule_ok hs nw (no_lack gs mz hog hom) (by omega)
          obtain ⟨he, hR1⟩ := hs2
          subst he
          rw [hR1] at P
          clear hR1
          have HH : Hp h0 _ (pjB g g2 g6 g7 bR bV bM w (wbox w A0 A1 A2 D0 D1 D2 a0c a1c a2c d0c d1c d2c) s1 (othF (j + 1)) 0 0 0 0 (mput (j : Int) ⟨rm, rg, (m : Nat)⟩ R) V M B X 3 Z Y ++ (Res.mp pI Rul.enc bT R :: zR g18 rm rg (m : Nat) :: [])) := P
          repeat clear H; clear P hs
          have H := HH
          clear HH
          conv => whnf
          repeat ((first | refine Hp.ld H 11 rfl rfl ?_ | refine iteT (by omega) ?_ | refine iteF (by omega) ?_ | refine iteET (by omega) ?_ | refine iteEF (by omega) ?_ | refine iteNT (by omega) ?_ | refine iteNF (by omega) ?_ | refine WrapK.i64 (by omega) (by omega) ?_ | refine Drawn.mk (by kernel_rfl) ?_); conv => whnf)
          refine cnd_intro (mm_ok hm3) ?_
          conv => whnf
          refine Hp.ldAt H 8 rfl rfl rfl (o := m) (mm_off hm3) (v := ptrV z.q) (ptq_at hm3 hp) ?_
          conv => whnf
          repeat ((first | refine Hp.ld H 11 rfl rfl ?_ | refine iteT (by omega) ?_ | refine iteF (by omega) ?_ | refine iteET (by omega) ?_ | refine iteEF (by omega) ?_ | refine iteNT (by omega) ?_ | refine iteNF (by omega) ?_ | refine WrapK.i64 (by omega) (by omega) ?_ | refine Drawn.mk (by kernel_rfl) ?_); conv => whnf)
          refine EqK.ptr_nil (EA_ok _) rfl rfl ?_
          conv => whnf
          repeat ((first | refine Hp.ld H 11 rfl rfl ?_ | refine iteT (by omega) ?_ | refine iteF (by omega) ?_ | refine iteET (by omega) ?_ | refine iteEF (by omega) ?_ | refine iteNT (by omega) ?_ | refine iteNF (by omega) ?_ | refine WrapK.i64 (by omega) (by omega) ?_ | refine Drawn.mk (by kernel_rfl) ?_); conv => whnf)
          refine Hp.mapPut (EA_ok _) H 10 rfl (pkey_okA _) (k := (j : Int)) (a := ⟨rm, rg, (m : Nat)⟩) rfl rfl rfl rfl rfl ?_
          clear H
          intro h12 H
          conv => whnf
          repeat ((first | refine iteT (by omega) ?_ | refine iteF (by omega) ?_ | refine iteET (by omega) ?_ | refine iteEF (by omega) ?_ | refine iteNT (by omega) ?_ | refine iteNF (by omega) ?_ | refine WrapK.i64 (by omega) (by omega) ?_ | refine Drawn.mk (by kernel_rfl) ?_); conv => whnf)
          exact ⟨(j + 1, s1, mput (j : Int) ⟨rm, rg, (m : Nat)⟩ R), ⟨(by first | rfl | (show Value.int .i64 _ = _; congr 1; omega) | (show Value.int .i64 _ = _; rw [wrap64_id (by omega) (by omega)]; first | rfl | (congr 1; omega))), trivial⟩, (by repeat (first | exact trivial | refine ⟨rfl, ?_⟩)), ⟨by show j + 1 ≤ 4; omega, by have := mput_len (n := (j : Int)) (a := (⟨rm, rg, (m : Nat)⟩ : Rul)) (L := R); show (mput (j : Int) ⟨rm, rg, (m : Nat)⟩ R).length ≤ j + 1; omega, gr.step hog hom, H.drop 11⟩, by show 4 - (j + 1) < 4 - j; omega⟩
        · have hp : ptq Z m = .pointer none := ptq_no fun z hz e => by
            have := (mz.yes z hz).2.1
            rw [e, hcf] at this
            cases this
          have hs2 := srule_lack hs nw (lack_meter mz (by dsimp only; omega) (fun m2 hm e => by dsimp only at e; rw [show m2 = m by omega]; exact hcf))
          obtain ⟨he, hR1⟩ := hs2
          subst he
          rw [hR1] at P
          clear hR1
          have HH : Hp h0 _ (pjB g g2 g6 g7 bR bV bM w (wbox w A0 A1 A2 D0 D1 D2 a0c a1c a2c d0c d1c d2c) s1 (othF (j + 1)) 0 0 0 0 R V M B X 3 Z Y ++ (Res.mp pI Rul.enc bT R :: zR g18 rm rg (m : Nat) :: [])) := P
          repeat clear H; clear P hs
          have H := HH
          clear HH
          conv => whnf
          repeat ((first | refine Hp.ld H 11 rfl rfl ?_ | refine iteT (by omega) ?_ | refine iteF (by omega) ?_ | refine iteET (by omega) ?_ | refine iteEF (by omega) ?_ | refine iteNT (by omega) ?_ | refine iteNF (by omega) ?_ | refine WrapK.i64 (by omega) (by omega) ?_ | refine Drawn.mk (by kernel_rfl) ?_); conv => whnf)
          refine cnd_intro (mm_ok hm3) ?_
          conv => whnf
          refine Hp.ldAt H 8 rfl rfl rfl (o := m) (mm_off hm3) (v := .pointer none) (ptq_at hm3 hp) ?_
          conv => whnf
          repeat ((first | refine Hp.ld H 11 rfl rfl ?_ | refine iteT (by omega) ?_ | refine iteF (by omega) ?_ | refine iteET (by omega) ?_ | refine iteEF (by omega) ?_ | refine iteNT (by omega) ?_ | refine iteNF (by omega) ?_ | refine WrapK.i64 (by omega) (by omega) ?_ | refine Drawn.mk (by kernel_rfl) ?_); conv => whnf)
          refine EqK.nil_nil (EA_ok _) rfl rfl ?_
          conv => whnf
          repeat ((first | refine Hp.ld H 11 rfl rfl ?_ | refine iteT (by omega) ?_ | refine iteF (by omega) ?_ | refine iteET (by omega) ?_ | refine iteEF (by omega) ?_ | refine iteNT (by omega) ?_ | refine iteNF (by omega) ?_ | refine WrapK.i64 (by omega) (by omega) ?_ | refine Drawn.mk (by kernel_rfl) ?_); conv => whnf)
          exact ⟨(j + 1, s1, R), ⟨(by first | rfl | (show Value.int .i64 _ = _; congr 1; omega) | (show Value.int .i64 _ = _; rw [wrap64_id (by omega) (by omega)]; first | rfl | (congr 1; omega))), trivial⟩, (by repeat (first | exact trivial | refine ⟨rfl, ?_⟩)), ⟨by show j + 1 ≤ 4; omega, by show R.length ≤ j + 1; omega, gr, H.drop 11⟩, by show 4 - (j + 1) < 4 - j; omega⟩
    · have hX : goodB w n = true ∨ goodB w n = false := by cases goodB w n <;> simp
      subst hgn
      rcases hX with hgd | hgd
      rotate_left
      · have hs2 := srule_lack hs nw (lack_gate gs (by dsimp only; omega) (fun m hm e => by dsimp only at e; rw [show m = n by omega]; exact hgd))
        obtain ⟨he, hR1⟩ := hs2
        subst he
        rw [hR1] at P
        clear hR1
        have HH : Hp h0 _ (pjB g g2 g6 g7 bR bV bM w (wbox w A0 A1 A2 D0 D1 D2 a0c a1c a2c d0c d1c d2c) s1 (othF (j + 1)) 0 0 0 0 R V M B X 3 Z Y ++ (Res.mp pI Rul.enc bT R :: zR g18 rm (n : Nat) rt :: [])) := P
        repeat clear H; clear P hs
        have H := HH
        clear HH
        conv => whnf
        repeat ((first | refine Hp.ld H 11 rfl rfl ?_ | refine iteT (by omega) ?_ | refine iteF (by omega) ?_ | refine iteET (by omega) ?_ | refine iteEF (by omega) ?_ | refine iteNT (by omega) ?_ | refine iteNF (by omega) ?_ | refine WrapK.i64 (by omega) (by omega) ?_ | refine Drawn.mk (by kernel_rfl) ?_); conv => whnf)
        refine cnd_intro (mm_ok hn3) ?_
        conv => whnf
        refine Hp.ldAt H 7 rfl rfl rfl (o := n) (mm_off hn3) (v := .bool false) (gB_at hn3 hgd) ?_
        conv => whnf
        repeat ((first | refine Hp.ld H 11 rfl rfl ?_ | refine iteT (by omega) ?_ | refine iteF (by omega) ?_ | refine iteET (by omega) ?_ | refine iteEF (by omega) ?_ | refine iteNT (by omega) ?_ | refine iteNF (by omega) ?_ | refine WrapK.i64 (by omega) (by omega) ?_ | refine Drawn.mk (by kernel_rfl) ?_); conv => whnf)
        exact ⟨(j + 1, s1, R), ⟨(by first | rfl | (show Value.int .i64 _ = _; congr 1; omega) | (show Value.int .i64 _ = _; rw [wrap64_id (by omega) (by omega)]; first | rfl | (congr 1; omega))), trivial⟩, (by repeat (first | exact trivial | refine ⟨rfl, ?_⟩)), ⟨by show j + 1 ≤ 4; omega, by show R.length ≤ j + 1; omega, gr, H.drop 11⟩, by show 4 - (j + 1) < 4 - j; omega⟩
      have hog : okG w n := .inr ⟨n, hn3, rfl, hgd⟩
      rcases hY with ht0 | ht2 | ⟨m, hm3, hmt⟩
      · have hom : okM w rt := .inl ht0
        have hs2 := srule_ok hs nw (no_lack gs mz hog hom) (by omega)
        obtain ⟨he, hR1⟩ := hs2
        subst he
        rw [hR1] at P
        clear hR1
        have HH : Hp h0 _ (pjB g g2 g6 g7 bR bV bM w (wbox w A0 A1 A2 D0 D1 D2 a0c a1c a2c d0c d1c d2c) s1 (othF (j + 1)) 0 0 0 0 (mput (j : Int) ⟨rm, (n : Nat), rt⟩ R) V M B X 3 Z Y ++ (Res.mp pI Rul.enc bT R :: zR g18 rm (n : Nat) rt :: [])) := P
        repeat clear H; clear P hs
        have H := HH
        clear HH
        conv => whnf
        repeat ((first | refine Hp.ld H 11 rfl rfl ?_ | refine iteT (by omega) ?_ | refine iteF (by omega) ?_ | refine iteET (by omega) ?_ | refine iteEF (by omega) ?_ | refine iteNT (by omega) ?_ | refine iteNF (by omega) ?_ | refine WrapK.i64 (by omega) (by omega) ?_ | refine Drawn.mk (by kernel_rfl) ?_); conv => whnf)
        refine cnd_intro (mm_ok hn3) ?_
        conv => whnf
        refine Hp.ldAt H 7 rfl rfl rfl (o := n) (mm_off hn3) (v := .bool true) (gB_at hn3 hgd) ?_
        conv => whnf
        repeat ((first | refine Hp.ld H 11 rfl rfl ?_ | refine iteT (by omega) ?_ | refine iteF (by omega) ?_ | refine iteET (by omega) ?_ | refine iteEF (by omega) ?_ | refine iteNT (by omega) ?_ | refine iteNF (by omega) ?_ | refine WrapK.i64 (by omega) (by omega) ?_ | refine Drawn.mk (by kernel_rfl) ?_); conv => whnf)
        refine Hp.mapPut (EA_ok _) H 10 rfl (pkey_okA _) (k := (j : Int)) (a := ⟨rm, (n : Nat), rt⟩) rfl rfl rfl rfl rfl ?_
        clear H
        intro h12 H
        conv => whnf
        repeat ((first | refine iteT (by omega) ?_ | refine iteF (by omega) ?_ | refine iteET (by omega) ?_ | refine iteEF (by omega) ?_ | refine iteNT (by omega) ?_ | refine iteNF (by omega) ?_ | refine WrapK.i64 (by omega) (by omega) ?_ | refine Drawn.mk (by kernel_rfl) ?_); conv => whnf)
        exact ⟨(j + 1, s1, mput (j : Int) ⟨rm, (n : Nat), rt⟩ R), ⟨(by first | rfl | (show Value.int .i64 _ = _; congr 1; omega) | (show Value.int .i64 _ = _; rw [wrap64_id (by omega) (by omega)]; first | rfl | (congr 1; omega))), trivial⟩, (by repeat (first | exact trivial | refine ⟨rfl, ?_⟩)), ⟨by show j + 1 ≤ 4; omega, by have := mput_len (n := (j : Int)) (a := (⟨rm, (n : Nat), rt⟩ : Rul)) (L := R); show (mput (j : Int) ⟨rm, (n : Nat), rt⟩ R).length ≤ j + 1; omega, gr.step hog hom, H.drop 11⟩, by show 4 - (j + 1) < 4 - j; omega⟩
      · have hs2 := srule_lack hs nw (lack_meter mz (by dsimp only; omega) (fun m hm e => by dsimp only at e; omega))
        obtain ⟨he, hR1⟩ := hs2
        subst he
        rw [hR1] at P
        clear hR1
        have HH : Hp h0 _ (pjB g g2 g6 g7 bR bV bM w (wbox w A0 A1 A2 D0 D1 D2 a0c a1c a2c d0c d1c d2c) s1 (othF (j + 1)) 0 0 0 0 R V M B X 3 Z Y ++ (Res.mp pI Rul.enc bT R :: zR g18 rm (n : Nat) rt :: [])) := P
        repeat clear H; clear P hs
        have H := HH
        clear HH
        conv => whnf
        repeat ((first | refine Hp.ld H 11 rfl rfl ?_ | refine iteT (by omega) ?_ | refine iteF (by omega) ?_ | refine iteET (by omega) ?_ | refine iteEF (by omega) ?_ | refine iteNT (by omega) ?_ | refine iteNF (by omega) ?_ | refine WrapK.i64 (by omega) (by omega) ?_ | refine Drawn.mk (by kernel_rfl) ?_); conv => whnf)
        refine cnd_intro (mm_ok hn3) ?_
        conv => whnf
        refine Hp.ldAt H 7 rfl rfl rfl (o := n) (mm_off hn3) (v := .bool true) (gB_at hn3 hgd) ?_
        conv => whnf
        repeat ((first | refine Hp.ld H 11 rfl rfl ?_ | refine iteT (by omega) ?_ | refine iteF (by omega) ?_ | refine iteET (by omega) ?_ | refine iteEF (by omega) ?_ | refine iteNT (by omega) ?_ | refine iteNF (by omega) ?_ | refine WrapK.i64 (by omega) (by omega) ?_ | refine Drawn.mk (by kernel_rfl) ?_); conv => whnf)
        exact ⟨(j + 1, s1, R), ⟨(by first | rfl | (show Value.int .i64 _ = _; congr 1; omega) | (show Value.int .i64 _ = _; rw [wrap64_id (by omega) (by omega)]; first | rfl | (congr 1; omega))), trivial⟩, (by repeat (first | exact trivial | refine ⟨rfl, ?_⟩)), ⟨by show j + 1 ≤ 4; omega, by show R.length ≤ j + 1; omega, gr, H.drop 11⟩, by show 4 - (j + 1) < 4 - j; omega⟩
      · subst hmt
        have hX : cfB w m = true ∨ cfB w m = false := by cases cfB w m <;> simp
        rcases hX with hcf | hcf
        · have hX := mz.all m hm3 hcf
          obtain ⟨z, hz, ez⟩ := hX
          have hp : ptq Z m = ptrV z.q := by rw [← ez]; exact ptq_mem mz.dn hz
          have hom : okM w m := .inr ⟨m, hm3, rfl, hcf⟩
          have hs2 := srule_ok hs nw (no_lack gs mz hog hom) (by omega)
          obtain ⟨he, hR1⟩ := hs2
          subst he
          rw [hR1] at P
          clear hR1
          have HH : Hp h0 _ (pjB g g2 g6 g7 bR bV bM w (wbox w A0 A1 A2 D0 D1 D2 a0c a1c a2c d0c d1c d2c) s1 (othF (j + 1)) 0 0 0 0 (mput (j : Int) ⟨rm, (n : Nat), (m : Nat)⟩ R) V M B X 3 Z Y ++ (Res.mp pI Rul.enc bT R :: zR g18 rm (n : Nat) (m : Nat) :: [])) := P
          repeat clear H; clear P hs
          have H := HH
          clear HH
          conv => whnf
          repeat ((first | refine Hp.ld H 11 rfl rfl ?_ | refine iteT (by omega) ?_ | refine iteF (by omega) ?_ | refine iteET (by omega) ?_ | refine iteEF (by omega) ?_ | refine iteNT (by omega) ?_ | refine iteNF (by omega) ?_ | refine WrapK.i64 (by omega) (by omega) ?_ | refine Drawn.mk (by kernel_rfl) ?_); conv => whnf)
          refine cnd_intro (mm_ok hn3) ?_
          conv => whnf
          refine Hp.ldAt H 7 rfl rfl rfl (o := n) (mm_off hn3) (v := .bool true) (gB_at hn3 hgd) ?_
          conv => whnf
          repeat ((first | refine Hp.ld H 11 rfl rfl ?_ | refine iteT (by omega) ?_ | refine iteF (by omega) ?_ | refine iteET (by omega) ?_ | refine iteEF (by omega) ?_ | refine iteNT (by omega) ?_ | refine iteNF (by omega) ?_ | refine WrapK.i64 (by omega) (by omega) ?_ | refine Drawn.mk (by kernel_rfl) ?_); conv => whnf)
          refine cnd_intro (mm_ok hm3) ?_
          conv => whnf
          refine Hp.ldAt H 8 rfl rfl rfl (o := m) (mm_off hm3) (v := ptrV z.q) (ptq_at hm3 hp) ?_
          conv => whnf
          repeat ((first | refine Hp.ld H 11 rfl rfl ?_ | refine iteT (by omega) ?_ | refine iteF (by omega) ?_ | refine iteET (by omega) ?_ | refine iteEF (by omega) ?_ | refine iteNT (by omega) ?_ | refine iteNF (by omega) ?_ | refine WrapK.i64 (by omega) (by omega) ?_ | refine Drawn.mk (by kernel_rfl) ?_); conv => whnf)
          refine EqK.ptr_nil (EA_ok _) rfl rfl ?_
          conv => whnf
          repeat ((first | refine Hp.ld H 11 rfl rfl ?_ | refine iteT (by omega) ?_ | refine iteF (by omega) ?_ | refine iteET (by omega) ?_ | refine iteEF (by omega) ?_ | refine iteNT (by omega) ?_ | refine iteNF (by omega) ?_ | refine WrapK.i64 (by omega) (by omega) ?_ | refine Drawn.mk (by kernel_rfl) ?_); conv => whnf)
          refine Hp.mapPut (EA_ok _) H 10 rfl (pkey_okA _) (k := (j : Int)) (a := ⟨rm, (n : Nat), (m : Nat)⟩) rfl rfl rfl rfl rfl ?_
          clear H
          intro h12 H
          conv => whnf
          repeat ((first | refine iteT (by omega) ?_ | refine iteF (by omega) ?_ | refine iteET (by omega) ?_ | refine iteEF (by omega) ?_ | refine iteNT (by omega) ?_ | refine iteNF (by omega) ?_ | refine WrapK.i64 (by omega) (by omega) ?_ | refine Drawn.mk (by kernel_rfl) ?_); conv => whnf)
          exact ⟨(j + 1, s1, mput (j : Int) ⟨rm, (n : Nat), (m : Nat)⟩ R), ⟨(by first | rfl | (show Value.int .i64 _ = _; congr 1; omega) | (show Value.int .i64 _ = _; rw [wrap64_id (by omega) (by omega)]; first | rfl | (congr 1; omega))), trivial⟩, (by repeat (first | exact trivial | refine ⟨rfl, ?_⟩)), ⟨by show j + 1 ≤ 4; omega, by have := mput_len (n := (j : Int)) (a := (⟨rm, (n : Nat), (m : Nat)⟩ : Rul)) (L := R); show (mput (j : Int) ⟨rm, (n : Nat), (m : Nat)⟩ R).length ≤ j + 1; omega, gr.step hog hom, H.drop 11⟩, by show 4 - (j + 1) < 4 - j; omega⟩
        · have hp : ptq Z m = .pointer none := ptq_no fun z hz e => by
            have := (mz.yes z hz).2.1
            rw [e, hcf] at this
            cases this
          have hs2 := srule_lack hs nw (lack_meter mz (by dsimp only; omega) (fun m2 hm e => by dsimp only at e; rw [show m2 = m by omega]; exact hcf))
          obtain ⟨he, hR1⟩ := hs2
          subst he
          rw [hR1] at P
          clear hR1
          have HH : Hp h0 _ (pjB g g2 g6 g7 bR bV bM w (wbox w A0 A1 A2 D0 D1 D2 a0c a1c a2c d0c d1c d2c) s1 (othF (j + 1)) 0 0 0 0 R V M B X 3 Z Y ++ (Res.mp pI Rul.enc bT R :: zR g18 rm (n : Nat) (m : Nat) :: [])) := P
          repeat clear H; clear P hs
          have H := HH
          clear HH
          conv => whnf
          repeat ((first | refine Hp.ld H 11 rfl rfl ?_ | refine iteT (by omega) ?_ | refine iteF (by omega) ?_ | refine iteET (by omega) ?_ | refine iteEF (by omega) ?_ | refine iteNT (by omega) ?_ | refine iteNF (by omega) ?_ | refine WrapK.i64 (by omega) (by omega) ?_ | refine Drawn.mk (by kernel_rfl) ?_); conv => whnf)
          refine cnd_intro (mm_ok hn3) ?_
          conv => whnf
          refine Hp.ldAt H 7 rfl rfl rfl (o := n) (mm_off hn3) (v := .bool true) (gB_at hn3 hgd) ?_
          conv => whnf
          repeat ((first | refine Hp.ld H 11 rfl rfl ?_ | refine iteT (by omega) ?_ | refine iteF (by omega) ?_ | refine iteET (by omega) ?_ | refine iteEF (by omega) ?_ | refine iteNT (by omega) ?_ | refine iteNF (by omega) ?_ | refine WrapK.i64 (by omega) (by omega) ?_ | refine Drawn.mk (by kernel_rfl) ?_); conv => whnf)
          refine cnd_intro (mm_ok hm3) ?_
          conv => whnf
          refine Hp.ldAt H 8 rfl rfl rfl (o := m) (mm_off hm3) (v := .pointer none) (ptq_at hm3 hp) ?_
          conv => whnf
          repeat ((first | refine Hp.ld H 11 rfl rfl ?_ | refine iteT (by omega) ?_ | refine iteF (by omega) ?_ | refine iteET (by omega) ?_ | refine iteEF (by omega) ?_ | refine iteNT (by omega) ?_ | refine iteNF (by omega) ?_ | refine WrapK.i64 (by omega) (by omega) ?_ | refine Drawn.mk (by kernel_rfl) ?_); conv => whnf)
          refine EqK.nil_nil (EA_ok _) rfl rfl ?_
          conv => whnf
          repeat ((first | refine Hp.ld H 11 rfl rfl ?_ | refine iteT (by omega) ?_ | refine iteF (by omega) ?_ | refine iteET (by omega) ?_ | refine iteEF (by omega) ?_ | refine iteNT (by omega) ?_ | refine iteNF (by omega) ?_ | refine WrapK.i64 (by omega) (by omega) ?_ | refine Drawn.mk (by kernel_rfl) ?_); conv => whnf)
          exact ⟨(j + 1, s1, R), ⟨(by first | rfl | (show Value.int .i64 _ = _; congr 1; omega) | (show Value.int .i64 _ = _; rw [wrap64_id (by omega) (by omega)]; first | rfl | (congr 1; omega))), trivial⟩, (by repeat (first | exact trivial | refine ⟨rfl, ?_⟩)), ⟨by show j + 1 ≤ 4; omega, by show R.length ≤ j + 1; omega, gr, H.drop 11⟩, by show 4 - (j + 1) < 4 - j; omega⟩
  have e : j = 4 := by omega
  subst e
  clear jA hR cj
  conv => whnf
  repeat ((first | refine iteT (by omega) ?_ | refine iteF (by omega) ?_ | refine iteET (by omega) ?_ | refine iteEF (by omega) ?_ | refine iteNT (by omega) ?_ | refine iteNF (by omega) ?_ | refine WrapK.i64 (by omega) (by omega) ?_ | refine Drawn.mk (by kernel_rfl) ?_); conv => whnf)
  intro g21 h9 N
  replace H := H.new N
  clear N
  conv => whnf
  repeat ((first | refine iteT (by omega) ?_ | refine iteF (by omega) ?_ | refine iteET (by omega) ?_ | refine iteEF (by omega) ?_ | refine iteNT (by omega) ?_ | refine iteNF (by omega) ?_ | refine WrapK.i64 (by omega) (by omega) ?_ | refine Drawn.mk (by kernel_rfl) ?_); conv => whnf)
  have HH : Hp h0 _ (zC g21 0 0 0 0 :: (pjB g g2 g6 g7 bR bV bM w (wbox w A0 A1 A2 D0 D1 D2 a0c a1c a2c d0c d1c d2c) s (othF 4) 0 0 0 0 R V M B X 3 Z Y ++ (Res.mp pI Rul.enc bT R :: []))) := H
  repeat clear H
  have H := HH
  clear HH
  have HH : Hp h0 _ (pjB g g2 g6 g7 bR bV bM w (wbox w A0 A1 A2 D0 D1 D2 a0c a1c a2c d0c d1c d2c) s (othF 4) 0 0 0 0 R V M B X 3 Z Y ++ (Res.mp pI Rul.enc bT R :: zC g21 0 0 0 0 :: [])) := Hp.order H 12 [1, 2, 3, 4, 5, 6, 7, 8, 9, 10, 11, 0] (by decide) rfl
  repeat clear H
  have H := HH
  clear HH
  refine ⟨Nat × Int × (Int × Int × Int × Int) × (List (Nat × MS) × List (Nat × MS) × List Zm), [0, 1, 2, 5, 6, 7, 8, 9, 11, 12, 13, 14, 15, 16, 17, 18, 19, 21, 30, 33, 35, 36, 52, 76, 77, 78, 79, 114, 135, 142, 143, 144, 156, 165, 166, 191, 192, 230, 232, 233], fun q => [(234, .int .i64 (q.1 : Nat)), (20, .int .i64 q.2.1)], fun q h' => q.1 ≤ fs.length ∧ (0 ≤ q.2.1 ∧ q.2.1 ≤ 1099511627776 * (q.1 : Int)) ∧ (0 ≤ q.2.2.1.1 ∧ q.2.2.1.1 ≤ (q.1 : Int)) ∧ (0 ≤ q.2.2.1.2.1 ∧ q.2.2.1.2.1 ≤ (q.1 : Int)) ∧ (0 ≤ q.2.2.1.2.2.1 ∧ q.2.2.1.2.2.1 ≤ (q.1 : Int)) ∧ (0 ≤ q.2.2.1.2.2.2 ∧ q.2.2.1.2.2.2 ≤ (q.1 : Int)) ∧ MZ w 3 q.1 M q.2.2.2.1 q.2.2.2.2.1 q.2.2.2.2.2 ∧ Hp h0 h' (pjB g g2 g6 g7 bR bV bM w (wbox w A0 A1 A2 D0 D1 D2 a0c a1c a2c d0c d1c d2c) s (othF 4) q.2.2.1.1 q.2.2.1.2.1 q.2.2.1.2.2.1 q.2.2.1.2.2.2 R V M B q.2.2.2.1 3 q.2.2.2.2.2 q.2.2.2.2.1 ++ (Res.mp pI Rul.enc bT R :: zC g21 q.2.2.1.1 q.2.2.1.2.1 q.2.2.1.2.2.1 q.2.2.1.2.2.2 :: [])), fun q => fs.length - q.1, ?_⟩
  conv => whnf
  refine ⟨⟨(0, 0, (0, 0, 0, 0), (X, Y, Z)), ⟨rfl, rfl, trivial⟩, Nat.zero_le _, ⟨Int.le_refl _, Int.le_refl _⟩, ⟨Int.le_refl _, Int.le_refl _⟩, ⟨Int.le_refl _, Int.le_refl _⟩, ⟨Int.le_refl _, Int.le_refl _⟩, ⟨Int.le_refl _, Int.le_refl _⟩, mz, H⟩, ?_⟩
  clear H mz
  clear X Y Z
  rintro ⟨i, now, ⟨k0, k1, k2, k3⟩, ⟨X, Y, Z⟩⟩ h10 ⟨iA, iN, iK0, iK1, iK2, iK3, mz, H⟩
  dsimp only at iA iN iK0 iK1 iK2 iK3 mz H ⊢
  by_cases ci : i < fs.length
  rotate_left
  · conv => whnf
    repeat ((first | refine iteT (by omega) ?_ | refine iteF (by omega) ?_ | refine iteET (by omega) ?_ | refine iteEF (by omega) ?_ | refine iteNT (by omega) ?_ | refine iteNF (by omega) ?_ | refine WrapK.i64 (by omega) (by omega) ?_ | refine Drawn.mk (by kernel_rfl) ?_); conv => whnf)
    exact ⟨rfl, H.keep⟩
  have hX := list_at (L := fs) (i := i) ci
  obtain ⟨f, hfx⟩ := hX
  have hX := (RowsV.keep hf H.keep).some (by omega)
  obtain ⟨cb, co, hD⟩ := hX
  subst hD
  have hfb2 := hfb f (List.mem_of_getElem? hfx)
  obtain ⟨fl, fd, fb, fc2, fe⟩ := f
  dsimp only at hfb2
  conv => whnf
  repeat ((first | refine iteT (by omega) ?_ | refine iteF (by omega) ?_ | refine iteET (by omega) ?_ | refine iteEF (by omega) ?_ | refine iteNT (by omega) ?_ | refine iteNF (by omega) ?_ | refine WrapK.i64 (by omega) (by omega) ?_ | refine Drawn.mk (by kernel_rfl) ?_); conv => whnf)
  refine rows_ld (RowsV.keep hf H.keep) hfx rfl rfl rfl (by first | omega | (simp; done) | (simp; omega)) ?_
  conv => whnf
  intro g23 h11 N
  replace H := H.new N
  clear N
  conv => whnf
  refine Hp.st H 0 rfl rfl rfl rfl rfl ?_
  clear H
  intro h H
  have HH : Hp h0 _ (zF g23 fl fd fb fc2 fe :: (pjB g g2 g6 g7 bR bV bM w (wbox w A0 A1 A2 D0 D1 D2 a0c a1c a2c d0c d1c d2c) s (othF 4) k0 k1 k2 k3 R V M B X 3 Z Y ++ (Res.mp pI Rul.enc bT R :: zC g21 k0 k1 k2 k3 :: []))) := H
  repeat clear H
  have H := HH
  clear HH
  conv => whnf
  refine Hp.ld H 0 rfl rfl ?_
  conv => whnf
  have hX : ∃ d : Int, (if (1099511627776 : Int) < (if (0 : Int) > fl then 0 else fl) then (1099511627776 : Int) else (if (0 : Int) > fl then 0 else fl)) = d := ⟨_, rfl⟩
  obtain ⟨d, hd⟩ := hX
  have hd0 : 0 ≤ d ∧ d ≤ 1099511627776 := by rw [← hd]; split <;> split <;> omega
  have hi2 : (i : Int) ≤ 100 := by omega
  have hwr : ∀ x, x = d → IntKind.i64.wrap (now + x) = now + d := fun x e => by rw [e]; exact wrap64_id (by omega) (by omega)
  refine WrapK.eq (m := now + d) (hwr _ hd) ?_
  conv => whnf
  conv => whnf
  repeat ((first | refine Hp.ld H 0 rfl rfl ?_ | refine iteT (by omega) ?_ | refine iteF (by omega) ?_ | refine iteET (by omega) ?_ | refine iteEF (by omega) ?_ | refine iteNT (by omega) ?_ | refine iteNF (by omega) ?_ | refine WrapK.i64 (by omega) (by omega) ?_ | refine Drawn.mk (by kernel_rfl) ?_); conv => whnf)
  repeat (first | (refine FillK.row rfl ?_; conv => whnf) | (refine FillK.lit rfl ?_; conv => whnf))
  conv => whnf
  repeat ((first | refine Hp.ld H 0 rfl rfl ?_ | refine iteT (by omega) ?_ | refine iteF (by omega) ?_ | refine iteET (by omega) ?_ | refine iteEF (by omega) ?_ | refine iteNT (by omega) ?_ | refine iteNF (by omega) ?_ | refine WrapK.i64 (by omega) (by omega) ?_ | refine Drawn.mk (by kernel_rfl) ?_); conv => whnf)
  repeat (first | (refine FillK.row rfl ?_; conv => whnf) | (refine FillK.lit rfl ?_; conv => whnf))
  conv => whnf
  repeat ((first | refine Hp.ld H 0 rfl rfl ?_ | refine iteT (by omega) ?_ | refine iteF (by omega) ?_ | refine iteET (by omega) ?_ | refine iteEF (by omega) ?_ | refine iteNT (by omega) ?_ | refine iteNF (by omega) ?_ | refine WrapK.i64 (by omega) (by omega) ?_ | refine Drawn.mk (by kernel_rfl) ?_); conv => whnf)
  intro g24 h12 N
  replace H := H.new N
  clear N
  conv => whnf
  repeat ((first | refine Hp.ld H 1 rfl rfl ?_ | (refine Hp.st H 0 rfl rfl rfl rfl rfl ?_; intro h H) | refine iteT (by omega) ?_ | refine iteF (by omega) ?_ | refine iteET (by omega) ?_ | refine iteEF (by omega) ?_ | refine iteNT (by omega) ?_ | refine iteNF (by omega) ?_ | refine WrapK.i64 (by omega) (by omega) ?_ | refine Drawn.mk (by kernel_rfl) ?_); conv => whnf)
  repeat (first | (refine FillK.row rfl ?_; conv => whnf) | (refine FillK.lit rfl ?_; conv => whnf))
  conv => whnf
  repeat ((first | refine Hp.ld H 1 rfl rfl ?_ | (refine Hp.st H 0 rfl rfl rfl rfl rfl ?_; intro h H) | refine iteT (by omega) ?_ | refine iteF (by omega) ?_ | refine iteET (by omega) ?_ | refine iteEF (by omega) ?_ | refine iteNT (by omega) ?_ | refine iteNF (by omega) ?_ | refine WrapK.i64 (by omega) (by omega) ?_ | refine Drawn.mk (by kernel_rfl) ?_); conv => whnf)
  intro g25 h13 N
  replace H := H.new N
  clear N
  conv => whnf
  repeat ((first | refine Hp.ld H 2 rfl rfl ?_ | (refine Hp.st H 0 rfl rfl rfl rfl rfl ?_; intro h H) | refine iteT (by omega) ?_ | refine iteF (by omega) ?_ | refine iteET (by omega) ?_ | refine iteEF (by omega) ?_ | refine iteNT (by omega) ?_ | refine iteNF (by omega) ?_ | refine WrapK.i64 (by omega) (by omega) ?_ | refine Drawn.mk (by kernel_rfl) ?_); conv => whnf)
  have HH : Hp h0 _ (zV g25 ⟨-1, 0, fc2, fe⟩ :: zH g24 ⟨fl, fd, fb, fc2, fe⟩ :: zF g23 fl fd fb fc2 fe :: (pjB g g2 g6 g7 bR bV bM w (wbox w A0 A1 A2 D0 D1 D2 a0c a1c a2c d0c d1c d2c) s (othF 4) k0 k1 k2 k3 R V M B X 3 Z Y ++ (Res.mp pI Rul.enc bT R :: zC g21 k0 k1 k2 k3 :: []))) := H
  repeat clear H
  have H := HH
  clear HH
  have hfin : ∀ h, Hp h0 h (zV g25 ⟨wantS fd, 0, fc2, fe⟩ :: zH g24 ⟨fl, fd, fb, fc2, fe⟩ :: zF g23 fl fd fb fc2 fe :: (pjB g g2 g6 g7 bR bV bM w (wbox w A0 A1 A2 D0 D1 D2 a0c a1c a2c d0c d1c d2c) s (othF 4) k0 k1 k2 k3 R V M B X 3 Z Y ++ (Res.mp pI Rul.enc bT R :: zC g21 k0 k1 k2 k3 :: []))) → Hp h0 h (pjB g g2 g6 g7 bR bV bM w (wbox w A0 A1 A2 D0 D1 D2 a0c a1c a2c d0c d1c d2c) s (othF 4) k0 k1 k2 k3 R V M B X 3 Z Y ++ (Res.mp pI Rul.enc bT R :: zC g21 k0 k1 k2 k3 :: zF g23 fl fd fb fc2 fe :: zH g24 ⟨fl, fd, fb, fc2, fe⟩ :: zV g25 ⟨wantS fd, 0, fc2, fe⟩ :: [])) := fun h H => Hp.order H 15 [3, 4, 5, 6, 7, 8, 9, 10, 11, 12, 13, 14, 2, 1, 0] (by decide) rfl
  revert H
  apply joinH (R := fun h => Hp h0 h (pjB g g2 g6 g7 bR bV bM w (wbox w A0 A1 A2 D0 D1 D2 a0c a1c a2c d0c d1c d2c) s (othF 4) k0 k1 k2 k3 R V M B X 3 Z Y ++ (Res.mp pI Rul.enc bT R :: zC g21 k0 k1 k2 k3 :: zF g23 fl fd fb fc2 fe :: zH g24 ⟨fl, fd, fb, fc2, fe⟩ :: zV g25 ⟨wantS fd, 0, fc2, fe⟩ :: [])))
  case hg =>
    intro key H
    by_cases cd : fd.toNat < 4
    · have ew : wantS fd = (fd.toNat : Int) := if_pos cd
      conv => whnf
      refine iteT (show ((fd.toNat : Nat) : Int) < 4 by omega) ?_
      conv => whnf
      refine Hp.ld H 2 rfl rfl ?_
      conv => whnf
      refine WrapK.i64 (by omega) (by omega) ?_
      conv => whnf
      refine Hp.st H 0 rfl rfl rfl rfl rfl ?_
      clear H
      intro h H
      conv => whnf
      have HH : Hp h0 _ (zV g25 ⟨wantS fd, 0, fc2, fe⟩ :: zH g24 ⟨fl, fd, fb, fc2, fe⟩ :: zF g23 fl fd fb fc2 fe :: (pjB g g2 g6 g7 bR bV bM w (wbox w A0 A1 A2 D0 D1 D2 a0c a1c a2c d0c d1c d2c) s (othF 4) k0 k1 k2 k3 R V M B X 3 Z Y ++ (Res.mp pI Rul.enc bT R :: zC g21 k0 k1 k2 k3 :: []))) := Hp.eqs H (by rw [ew]; rfl)
      repeat clear H
      have H := HH
      clear HH
      exact key _ (hfin _ H)
    · have ew : wantS fd = -1 := if_neg cd
      conv => whnf
      refine iteF (show ¬ ((fd.toNat : Nat) : Int) < 4 by omega) ?_
      conv => whnf
      have HH : Hp h0 _ (zV g25 ⟨wantS fd, 0, fc2, fe⟩ :: zH g24 ⟨fl, fd, fb, fc2, fe⟩ :: zF g23 fl fd fb fc2 fe :: (pjB g g2 g6 g7 bR bV bM w (wbox w A0 A1 A2 D0 D1 D2 a0c a1c a2c d0c d1c d2c) s (othF 4) k0 k1 k2 k3 R V M B X 3 Z Y ++ (Res.mp pI Rul.enc bT R :: zC g21 k0 k1 k2 k3 :: []))) := Hp.eqs H (by rw [ew])
      repeat clear H
      have H := HH
      clear HH
      exact key _ (hfin _ H)
  case hp =>
    clear hfin
    intro h14 H
    conv => whnf
    refine Hp.ld H 14 rfl rfl ?_
    conv => whnf
    have hX := lk_cases R (wantS fd)
    rcases hX with ⟨r, hr⟩ | hr
    rotate_left
    · refine MapAt.lookup (EA_ok _) (H.get 10 rfl) (pkey_okA _) (k := wantS fd) rfl rfl rfl rfl rfl rfl (u := .tuple #[Rul.enc ⟨0, 0, 0⟩, .bool false]) (by rw [hr]; rfl) ?_
      conv => whnf
      intro g26 h15 N
      replace H := H.new N
      clear N
      conv => whnf
      refine Hp.st H 0 rfl rfl rfl rfl rfl ?_
      clear H
      intro h H
      have HH : Hp h0 _ (zR g26 0 0 0 :: (pjB g g2 g6 g7 bR bV bM w (wbox w A0 A1 A2 D0 D1 D2 a0c a1c a2c d0c d1c d2c) s (othF 4) k0 k1 k2 k3 R V M B X 3 Z Y ++ (Res.mp pI Rul.enc bT R :: zC g21 k0 k1 k2 k3 :: zF g23 fl fd fb fc2 fe :: zH g24 ⟨fl, fd, fb, fc2, fe⟩ :: zV g25 ⟨wantS fd, 0, fc2, fe⟩ :: []))) := H
      repeat clear H
      have H := HH
      clear HH
      have HH : Hp h0 _ (pjB g g2 g6 g7 bR bV bM w (wbox w A0 A1 A2 D0 D1 D2 a0c a1c a2c d0c d1c d2c) s (othF 4) k0 k1 k2 k3 R V M B X 3 Z Y ++ (Res.mp pI Rul.enc bT R :: zC g21 k0 k1 k2 k3 :: zF g23 fl fd fb fc2 fe :: zH g24 ⟨fl, fd, fb, fc2, fe⟩ :: zV g25 ⟨wantS fd, 0, fc2, fe⟩ :: zR g26 0 0 0 :: [])) := Hp.order H 16 [1, 2, 3, 4, 5, 6, 7, 8, 9, 10, 11, 12, 13, 14, 15, 0] (by decide) rfl
      repeat clear H
      have H := HH
      clear HH
      conv => whnf
      refine Hp.ld H 14 rfl rfl ?_
      conv => whnf
      refine Hp.ld H 11 rfl rfl ?_
      conv => whnf
      refine WrapK.i64 (by omega) (by omega) ?_
      conv => whnf
      refine Hp.st H 11 rfl rfl rfl rfl rfl ?_
      clear H
      intro h H
      have HH : Hp h0 _ (pjB g g2 g6 g7 bR bV bM w (wbox w A0 A1 A2 D0 D1 D2 a0c a1c a2c d0c d1c d2c) s (othF 4) k0 k1 k2 k3 R V M B X 3 Z Y ++ (Res.mp pI Rul.enc bT R :: zC g21 (k0 + 1) k1 k2 k3 :: zF g23 fl fd fb fc2 fe :: zH g24 ⟨fl, fd, fb, fc2, fe⟩ :: zV g25 ⟨wantS fd, 0, fc2, fe⟩ :: zR g26 0 0 0 :: [])) := H
      repeat clear H
      have H := HH
      clear HH
      conv => whnf
      refine Drawn.keys [0, 1, 2, 3, 4, 5, 6] [(7, []), (8, [])] [9, 10, 11, 13, 12, 14, 15] (by kernel_rfl) ?_
      conv => whnf
      refine Hp.ld H 13 rfl rfl ?_
      conv => whnf
      refine Hp.ld H 12 rfl rfl ?_
      conv => whnf
      refine Hp.ld H 12 rfl rfl ?_
      conv => whnf
      refine ⟨fun D val h => ∃ x7 x8, val = vv x7 x8 ∧ (D 7 = true → x7 = .agg (Vd.cells ⟨wantS fd, 0, fc2, fe⟩).toArray) ∧ (D 8 = true → x8 = .agg (Vd.cells ⟨wantS fd, 0, fc2, fe⟩).toArray) ∧ (D 7 = false → Hp h0 h (pjB g g2 g6 g7 bR bV bM w (wbox w A0 A1 A2 D0 D1 D2 a0c a1c a2c d0c d1c d2c) s (othF 4) k0 k1 k2 k3 R V M B X 3 Z Y ++ (Res.mp pI Rul.enc bT R :: zC g21 (k0 + 1) k1 k2 k3 :: zF g23 fl fd fb fc2 fe :: zH g24 ⟨fl, fd, fb, fc2, fe⟩ :: zV g25 ⟨wantS fd, 0, fc2, fe⟩ :: zR g26 0 0 0 :: []))) ∧ (D 7 = true → Hp h0 h (pjB g g2 g6 g7 bR bV bM w (wbox w A0 A1 A2 D0 D1 D2 a0c a1c a2c d0c d1c d2c) s (othF 4) (k0 + 1) k1 k2 k3 R V M B X 3 Z Y ++ (Res.mp pI Rul.enc bT R :: zC g21 (k0 + 1) k1 k2 k3 :: zF g23 fl fd fb fc2 fe :: zH g24 ⟨fl, fd, fb, fc2, fe⟩ :: zV g25 ⟨wantS fd, 0, fc2, fe⟩ :: zR g26 0 0 0 :: []))), vv (.bool false) (.bool false), ⟨_, _, rfl, fun h => absurd (show false = true from h) (by decide), fun h => absurd (show false = true from h) (by decide), fun _ => H, fun h => absurd (show false = true from h) (by decide)⟩, And.intro ?_ (And.intro ?_ trivial), ?_⟩
      · clear H
        rintro D val h ⟨x7, x8, rfl, v7, v8, hB, hA⟩
        have H := hB rfl
        clear hA hB
        conv => whnf
        refine CallK.mono (judge_call H (fH ⟨fl, fd, fb, fc2, fe⟩) 1 fb fc2 (now + d) (by rw [othF_length]; decide) (gr.ok gs mz) (by omega) (by omega) (by omega) (by omega) (by omega)) ?_
        rintro _ h2 ⟨e, d1, X1, hj, rfl, P⟩
        rw [fH_find] at hj
        have hj2 := jd_none hj hr
        obtain ⟨rfl, rfl, rfl⟩ := hj2
        exact ⟨_, x8, vv_7 _ _ _, fun _ => rfl, v8, fun h => absurd (show true = false from h) (by decide), fun _ => P⟩
      · clear H
        rintro D val h ⟨x7, x8, rfl, v7, v8, hB, hA⟩
        have hX : D 7 = true ∨ D 7 = false := by cases D 7 <;> simp
        rcases hX with hD | hD
        · have H := hA hD
          conv => whnf
          refine Hp.ld H 14 rfl rfl ?_
          exact ⟨x7, _, vv_8 _ _ _, v7, fun _ => rfl, hB, hA⟩
        · have H := hB hD
          conv => whnf
          refine Hp.ld H 14 rfl rfl ?_
          exact ⟨x7, _, vv_8 _ _ _, v7, fun _ => rfl, hB, hA⟩
      clear H
      rintro val h20 ⟨x7, x8, rfl, v7, v8, _, hA⟩
      have H := hA rfl
      have e7 := v7 rfl
      have e8 := v8 rfl
      clear hA v7 v8
      subst e7
      subst e8
      conv => whnf
      refine EqK.gen (EA_ok _) (xs := Vd.cells ⟨wantS fd, 0, fc2, fe⟩) (ys := Vd.cells ⟨wantS fd, 0, fc2, fe⟩) rfl (by kernel_rfl) rfl rfl (vd_selfA _ _) ?_
      conv => whnf
      refine Hp.ld H 11 rfl rfl ?_
      conv => whnf
      refine CallK.mono (pcounts_call _ g s bR bV bM _ _ _ _ (pol_ob (i := 0) H rfl)) ?_
      rintro _ h21 ⟨k5, rfl⟩
      refine ⟨k5, ?_⟩
      replace H := H.and k5
      clear k5
      conv => whnf
      refine EqK.gen (EA_ok _) rfl (by kernel_rfl) rfl rfl (cnt_self (k0 + 1) k1 k2 k3) ?_
      conv => whnf
      repeat ((first | refine iteT (by omega) ?_ | refine iteF (by omega) ?_ | refine iteET (by omega) ?_ | refine iteEF (by omega) ?_ | refine iteNT (by omega) ?_ | refine iteNF (by omega) ?_ | refine WrapK.i64 (by omega) (by omega) ?_ | refine Drawn.mk (by kernel_rfl) ?_); conv => whnf)
      have hK0 : 0 ≤ (k0 + 1) ∧ (k0 + 1) ≤ ((i + 1 : Nat) : Int) := by omega
      have hK1 : 0 ≤ k1 ∧ k1 ≤ ((i + 1 : Nat) : Int) := by omega
      have hK2 : 0 ≤ k2 ∧ k2 ≤ ((i + 1 : Nat) : Int) := by omega
      have hK3 : 0 ≤ k3 ∧ k3 ≤ ((i + 1 : Nat) : Int) := by omega
      have hN : 0 ≤ now + d ∧ now + d ≤ 1099511627776 * ((i + 1 : Nat) : Int) := by omega
      have hi3 : i + 1 ≤ fs.length := by omega
      have hme : fs.length - (i + 1) < fs.length - i := by omega
      have mz2 : MZ w 3 (i + 1) M X Y Z := mz.more
      have H2 : Hp h0 h21 (pjB g g2 g6 g7 bR bV bM w (wbox w A0 A1 A2 D0 D1 D2 a0c a1c a2c d0c d1c d2c) s (othF 4) (k0 + 1) k1 k2 k3 R V M B X 3 Z Y ++ (Res.mp pI Rul.enc bT R :: zC g21 (k0 + 1) k1 k2 k3 :: [])) := (((H.drop 12).drop 12).drop 12).drop 12
      exact ⟨(i + 1, now + d, ((k0 + 1), k1, k2, k3), (X, Y, Z)), ⟨(by first | rfl | (show Value.int .i64 _ = _; congr 1; omega) | (show Value.int .i64 _ = _; rw [wrap64_id (by omega) (by omega)]; first | rfl | (congr 1; omega))), rfl, trivial⟩, (by repeat (first | exact trivial | refine ⟨rfl, ?_⟩)), ⟨hi3, hN, hK0, hK1, hK2, hK3, mz2, H2⟩, hme⟩
    obtain ⟨rm, rg, rt⟩ := r
    have hok := gr _ _ hr
    dsimp only at hok
    refine MapAt.lookup (EA_ok _) (H.get 10 rfl) (pkey_okA _) (k := wantS fd) rfl rfl rfl rfl rfl rfl (u := .tuple #[Rul.enc ⟨rm, rg, rt⟩, .bool true]) (by rw [hr]; rfl) ?_
    conv => whnf
    intro g26 h15 N
    replace H := H.new N
    clear N
    conv => whnf
    refine Hp.st H 0 rfl rfl rfl rfl rfl ?_
    clear H
    intro h H
    have HH : Hp h0 _ (zR g26 rm rg rt :: (pjB g g2 g6 g7 bR bV bM w (wbox w A0 A1 A2 D0 D1 D2 a0c a1c a2c d0c d1c d2c) s (othF 4) k0 k1 k2 k3 R V M B X 3 Z Y ++ (Res.mp pI Rul.enc bT R :: zC g21 k0 k1 k2 k3 :: zF g23 fl fd fb fc2 fe :: zH g24 ⟨fl, fd, fb, fc2, fe⟩ :: zV g25 ⟨wantS fd, 0, fc2, fe⟩ :: []))) := H
    repeat clear H
    have H := HH
    clear HH
    have HH : Hp h0 _ (pjB g g2 g6 g7 bR bV bM w (wbox w A0 A1 A2 D0 D1 D2 a0c a1c a2c d0c d1c d2c) s (othF 4) k0 k1 k2 k3 R V M B X 3 Z Y ++ (Res.mp pI Rul.enc bT R :: zC g21 k0 k1 k2 k3 :: zF g23 fl fd fb fc2 fe :: zH g24 ⟨fl, fd, fb, fc2, fe⟩ :: zV g25 ⟨wantS fd, 0, fc2, fe⟩ :: zR g26 rm rg rt :: [])) := Hp.order H 16 [1, 2, 3, 4, 5, 6, 7, 8, 9, 10, 11, 12, 13, 14, 15, 0] (by decide) rfl
    repeat clear H
    have H := HH
    clear HH
    revert H
    revert h
    apply joinBH (R := fun (_ : Bool) h => ¬ (rm > 0 ∧ fb > rm) ∧ Hp h0 h (pjB g g2 g6 g7 bR bV bM w (wbox w A0 A1 A2 D0 D1 D2 a0c a1c a2c d0c d1c d2c) s (othF 4) k0 k1 k2 k3 R V M B X 3 Z Y ++ (Res.mp pI Rul.enc bT R :: zC g21 k0 k1 k2 k3 :: zF g23 fl fd fb fc2 fe :: zH g24 ⟨fl, fd, fb, fc2, fe⟩ :: zV g25 ⟨wantS fd, 0, fc2, fe⟩ :: zR g26 rm rg rt :: [])))
    case hg =>
      intro key h H
      conv => whnf
      refine Hp.ld H 15 rfl rfl ?_
      conv => whnf
      by_cases m1 : rm > 0
      · refine iteT m1 ?_
        conv => whnf
        refine Hp.ld H 12 rfl rfl ?_
        conv => whnf
        refine Hp.ld H 15 rfl rfl ?_
        conv => whnf
        by_cases m2 : fb > rm
        · refine iteT m2 ?_
          clear key
          conv => whnf
          refine Hp.st H 14 rfl rfl rfl rfl rfl ?_
          clear H
          intro h H
          have HH : Hp h0 _ (pjB g g2 g6 g7 bR bV bM w (wbox w A0 A1 A2 D0 D1 D2 a0c a1c a2c d0c d1c d2c) s (othF 4) k0 k1 k2 k3 R V M B X 3 Z Y ++ (Res.mp pI Rul.enc bT R :: zC g21 k0 k1 k2 k3 :: zF g23 fl fd fb fc2 fe :: zH g24 ⟨fl, fd, fb, fc2, fe⟩ :: zV g25 ⟨wantS fd, 1, fc2, fe⟩ :: zR g26 rm rg rt :: [])) := H
          repeat clear H
          have H := HH
          clear HH
          conv => whnf
          refine Hp.ld H 14 rfl rfl ?_
          conv => whnf
          refine Hp.ld H 11 rfl rfl ?_
          conv => whnf
          refine WrapK.i64 (by omega) (by omega) ?_
          conv => whnf
          refine Hp.st H 11 rfl rfl rfl rfl rfl ?_
          clear H
          intro h H
          have HH : Hp h0 _ (pjB g g2 g6 g7 bR bV bM w (wbox w A0 A1 A2 D0 D1 D2 a0c a1c a2c d0c d1c d2c) s (othF 4) k0 k1 k2 k3 R V M B X 3 Z Y ++ (Res.mp pI Rul.enc bT R :: zC g21 k0 (k1 + 1) k2 k3 :: zF g23 fl fd fb fc2 fe :: zH g24 ⟨fl, fd, fb, fc2, fe⟩ :: zV g25 ⟨wantS fd, 1, fc2, fe⟩ :: zR g26 rm rg rt :: [])) := H
          repeat clear H
          have H := HH
          clear HH
          conv => whnf
          refine Drawn.keys [0, 1, 2, 3, 4, 5, 6] [(7, []), (8, [])] [9, 10, 11, 13, 12, 14, 15] (by kernel_rfl) ?_
          conv => whnf
          refine Hp.ld H 13 rfl rfl ?_
          conv => whnf
          refine Hp.ld H 12 rfl rfl ?_
          conv => whnf
          refine Hp.ld H 12 rfl rfl ?_
          conv => whnf
          refine ⟨fun D val h => ∃ x7 x8, val = vv x7 x8 ∧ (D 7 = true → x7 = .agg (Vd.cells ⟨wantS fd, 1, fc2, fe⟩).toArray) ∧ (D 8 = true → x8 = .agg (Vd.cells ⟨wantS fd, 1, fc2, fe⟩).toArray) ∧ (D 7 = false → Hp h0 h (pjB g g2 g6 g7 bR bV bM w (wbox w A0 A1 A2 D0 D1 D2 a0c a1c a2c d0c d1c d2c) s (othF 4) k0 k1 k2 k3 R V M B X 3 Z Y ++ (Res.mp pI Rul.enc bT R :: zC g21 k0 (k1 + 1) k2 k3 :: zF g23 fl fd fb fc2 fe :: zH g24 ⟨fl, fd, fb, fc2, fe⟩ :: zV g25 ⟨wantS fd, 1, fc2, fe⟩ :: zR g26 rm rg rt :: []))) ∧ (D 7 = true → Hp h0 h (pjB g g2 g6 g7 bR bV bM w (wbox w A0 A1 A2 D0 D1 D2 a0c a1c a2c d0c d1c d2c) s (othF 4) k0 (k1 + 1) k2 k3 R V M B X 3 Z Y ++ (Res.mp pI Rul.enc bT R :: zC g21 k0 (k1 + 1) k2 k3 :: zF g23 fl fd fb fc2 fe :: zH g24 ⟨fl, fd, fb, fc2, fe⟩ :: zV g25 ⟨wantS fd, 1, fc2, fe⟩ :: zR g26 rm rg rt :: []))), vv (.bool false) (.bool false), ⟨_, _, rfl, fun h => absurd (show false = true from h) (by decide), fun h => absurd (show false = true from h) (by decide), fun _ => H, fun h => absurd (show false = true from h) (by decide)⟩, And.intro ?_ (And.intro ?_ trivial), ?_⟩
          · clear H
            rintro D val h ⟨x7, x8, rfl, v7, v8, hB, hA⟩
            have H := hB rfl
            clear hA hB
            conv => whnf
            refine CallK.mono (judge_call H (fH ⟨fl, fd, fb, fc2, fe⟩) 1 fb fc2 (now + d) (by rw [othF_length]; decide) (gr.ok gs mz) (by omega) (by omega) (by omega) (by omega) (by omega)) ?_
            rintro _ h2 ⟨e, d1, X1, hj, rfl, P⟩
            rw [fH_find] at hj
            have hj2 := jd_large hj hr ⟨m1, m2⟩
            obtain ⟨rfl, rfl, rfl⟩ := hj2
            exact ⟨_, x8, vv_7 _ _ _, fun _ => rfl, v8, fun h => absurd (show true = false from h) (by decide), fun _ => P⟩
          · clear H
            rintro D val h ⟨x7, x8, rfl, v7, v8, hB, hA⟩
            have hX : D 7 = true ∨ D 7 = false := by cases D 7 <;> simp
            rcases hX with hD | hD
            · have H := hA hD
              conv => whnf
              refine Hp.ld H 14 rfl rfl ?_
              exact ⟨x7, _, vv_8 _ _ _, v7, fun _ => rfl, hB, hA⟩
            · have H := hB hD
              conv => whnf
              refine Hp.ld H 14 rfl rfl ?_
              exact ⟨x7, _, vv_8 _ _ _, v7, fun _ => rfl, hB, hA⟩
          clear H
          rintro val h20 ⟨x7, x8, rfl, v7, v8, _, hA⟩
          have H := hA rfl
          have e7 := v7 rfl
          have e8 := v8 rfl
          clear hA v7 v8
          subst e7
          subst e8
          conv => whnf
          refine EqK.gen (EA_ok _) (xs := Vd.cells ⟨wantS fd, 1, fc2, fe⟩) (ys := Vd.cells ⟨wantS fd, 1, fc2, fe⟩) rfl (by kernel_rfl) rfl rfl (vd_selfA _ _) ?_
          conv => whnf
          refine Hp.ld H 11 rfl rfl ?_
          conv => whnf
          refine CallK.mono (pcounts_call _ g s bR bV bM _ _ _ _ (pol_ob (i := 0) H rfl)) ?_
          rintro _ h21 ⟨k5, rfl⟩
          refine ⟨k5, ?_⟩
          replace H := H.and k5
          clear k5
          conv => whnf
          refine EqK.gen (EA_ok _) rfl (by kernel_rfl) rfl rfl (cnt_self k0 (k1 + 1) k2 k3) ?_
          conv => whnf
          repeat ((first | refine iteT (by omega) ?_ | refine iteF (by omega) ?_ | refine iteET (by omega) ?_ | refine iteEF (by omega) ?_ | refine iteNT (by omega) ?_ | refine iteNF (by omega) ?_ | refine WrapK.i64 (by omega) (by omega) ?_ | refine Drawn.mk (by kernel_rfl) ?_); conv => whnf)
          have hK0 : 0 ≤ k0 ∧ k0 ≤ ((i + 1 : Nat) : Int) := by omega
          have hK1 : 0 ≤ (k1 + 1) ∧ (k1 + 1) ≤ ((i + 1 : Nat) : Int) := by omega
          have hK2 : 0 ≤ k2 ∧ k2 ≤ ((i + 1 : Nat) : Int) := by omega
          have hK3 : 0 ≤ k3 ∧ k3 ≤ ((i + 1 : Nat) : Int) := by omega
          have hN : 0 ≤ now + d ∧ now + d ≤ 1099511627776 * ((i + 1 : Nat) : Int) := by omega
          have hi3 : i + 1 ≤ fs.length := by omega
          have hme : fs.length - (i + 1) < fs.length - i := by omega
          have mz2 : MZ w 3 (i + 1) M X Y Z := mz.more
          have H2 : Hp h0 h21 (pjB g g2 g6 g7 bR bV bM w (wbox w A0 A1 A2 D0 D1 D2 a0c a1c a2c d0c d1c d2c) s (othF 4) k0 (k1 + 1) k2 k3 R V M B X 3 Z Y ++ (Res.mp pI Rul.enc bT R :: zC g21 k0 (k1 + 1) k2 k3 :: [])) := (((H.drop 12).drop 12).drop 12).drop 12
          exact ⟨(i + 1, now + d, (k0, (k1 + 1), k2, k3), (X, Y, Z)), ⟨(by first | rfl | (show Value.int .i64 _ = _; congr 1; omega) | (show Value.int .i64 _ = _; rw [wrap64_id (by omega) (by omega)]; first | rfl | (congr 1; omega))), rfl, trivial⟩, (by repeat (first | exact trivial | refine ⟨rfl, ?_⟩)), ⟨hi3, hN, hK0, hK1, hK2, hK3, mz2, H2⟩, hme⟩
        refine iteF m2 ?_
        conv => whnf
        with_reducible generalize hb : decide (fb > rm) = b
        exact key b _ ⟨fun h => m2 h.2, H⟩
      · refine iteF m1 ?_
        conv => whnf
        exact key false _ ⟨fun h => m1 h.1, H⟩
    case hp =>
      rintro b h16 ⟨hnl, H⟩
      obtain ⟨hog, hom⟩ := hok
      skip
      rcases hog with hg0 | ⟨n, hn3, hgn, hgd⟩
      · have hga : gateA ⟨rm, rg, rt⟩ V (now + d) fc2 = (false, fc2) := gate_off hg0 _ _
        conv => whnf
        refine Hp.ld H 15 rfl rfl ?_
        conv => whnf
        refine iteF (show ¬ rg ≥ 0 by omega) ?_
        conv => whnf
        refine Hp.ld H 15 rfl rfl ?_
        conv => whnf
        refine iteF (show ¬ rg ≥ 0 by omega) ?_
        conv => whnf
        refine Hp.ld H 15 rfl rfl ?_
        conv => whnf
        rcases hom with ht0 | ⟨m, hm3, hmt, hcf⟩
        · refine iteF (show ¬ rt ≥ 0 by omega) ?_
          conv => whnf
          refine Hp.ld H 14 rfl rfl ?_
          conv => whnf
          refine Hp.ld H 11 rfl rfl ?_
          conv => whnf
          refine WrapK.i64 (by omega) (by omega) ?_
          conv => whnf
          refine Hp.st H 11 rfl rfl rfl rfl rfl ?_
          clear H
          intro h H
          have HH : Hp h0 _ (pjB g g2 g6 g7 bR bV bM w (wbox w A0 A1 A2 D0 D1 D2 a0c a1c a2c d0c d1c d2c) s (othF 4) k0 k1 k2 k3 R V M B X 3 Z Y ++ (Res.mp pI Rul.enc bT R :: zC g21 (k0 + 1) k1 k2 k3 :: zF g23 fl fd fb fc2 fe :: zH g24 ⟨fl, fd, fb, fc2, fe⟩ :: zV g25 ⟨wantS fd, 0, fc2, fe⟩ :: zR g26 rm rg rt :: [])) := H
          repeat clear H
          have H := HH
          clear HH
          conv => whnf
          refine Drawn.keys [0, 1, 2, 3, 4, 5, 6] [(7, []), (8, [])] [9, 10, 11, 13, 12, 14, 15] (by kernel_rfl) ?_
          conv => whnf
          refine Hp.ld H 13 rfl rfl ?_
          conv => whnf
          refine Hp.ld H 12 rfl rfl ?_
          conv => whnf
          refine Hp.ld H 12 rfl rfl ?_
          conv => whnf
          refine ⟨fun D val h => ∃ x7 x8, val = vv x7 x8 ∧ (D 7 = true → x7 = .agg (Vd.cells ⟨wantS fd, 0, fc2, fe⟩).toArray) ∧ (D 8 = true → x8 = .agg (Vd.cells ⟨wantS fd, 0, fc2, fe⟩).toArray) ∧ (D 7 = false → Hp h0 h (pjB g g2 g6 g7 bR bV bM w (wbox w A0 A1 A2 D0 D1 D2 a0c a1c a2c d0c d1c d2c) s (othF 4) k0 k1 k2 k3 R V M B X 3 Z Y ++ (Res.mp pI Rul.enc bT R :: zC g21 (k0 + 1) k1 k2 k3 :: zF g23 fl fd fb fc2 fe :: zH g24 ⟨fl, fd, fb, fc2, fe⟩ :: zV g25 ⟨wantS fd, 0, fc2, fe⟩ :: zR g26 rm rg rt :: []))) ∧ (D 7 = true → Hp h0 h (pjB g g2 g6 g7 bR bV bM w (wbox w A0 A1 A2 D0 D1 D2 a0c a1c a2c d0c d1c d2c) s (othF 4) (k0 + 1) k1 k2 k3 R V M B X 3 Z Y ++ (Res.mp pI Rul.enc bT R :: zC g21 (k0 + 1) k1 k2 k3 :: zF g23 fl fd fb fc2 fe :: zH g24 ⟨fl, fd, fb, fc2, fe⟩ :: zV g25 ⟨wantS fd, 0, fc2, fe⟩ :: zR g26 rm rg rt :: []))), vv (.bool false) (.bool false), ⟨_, _, rfl, fun h => absurd (show false = true from h) (by decide), fun h => absurd (show false = true from h) (by decide), fun _ => H, fun h => absurd (show false = true from h) (by decide)⟩, And.intro ?_ (And.intro ?_ trivial), ?_⟩
          · clear H
            rintro D val h ⟨x7, x8, rfl, v7, v8, hB, hA⟩
            have H := hB rfl
            clear hA hB
            conv => whnf
            refine CallK.mono (judge_call H (fH ⟨fl, fd, fb, fc2, fe⟩) 1 fb fc2 (now + d) (by rw [othF_length]; decide) (gr.ok gs mz) (by omega) (by omega) (by omega) (by omega) (by omega)) ?_
            rintro _ h2 ⟨e, d1, X1, hj, rfl, P⟩
            rw [fH_find] at hj
            have hj2 := jd_pass hj hr hnl hga ht0
            obtain ⟨rfl, rfl, rfl⟩ := hj2
            exact ⟨_, x8, vv_7 _ _ _, fun _ => rfl, v8, fun h => absurd (show true = false from h) (by decide), fun _ => P⟩
          · clear H
            rintro D val h ⟨x7, x8, rfl, v7, v8, hB, hA⟩
            have hX : D 7 = true ∨ D 7 = false := by cases D 7 <;> simp
            rcases hX with hD | hD
            · have H := hA hD
              conv => whnf
              refine Hp.ld H 14 rfl rfl ?_
              exact ⟨x7, _, vv_8 _ _ _, v7, fun _ => rfl, hB, hA⟩
            · have H := hB hD
              conv => whnf
              refine Hp.ld H 14 rfl rfl ?_
              exact ⟨x7, _, vv_8 _ _ _, v7, fun _ => rfl, hB, hA⟩
          clear H
          rintro val h20 ⟨x7, x8, rfl, v7, v8, _, hA⟩
          have H := hA rfl
          have e7 := v7 rfl
          have e8 := v8 rfl
          clear hA v7 v8
          subst e7
          subst e8
          conv => whnf
          refine EqK.gen (EA_ok _) (xs := Vd.cells ⟨wantS fd, 0, fc2, fe⟩) (ys := Vd.cells ⟨wantS fd, 0, fc2, fe⟩) rfl (by kernel_rfl) rfl rfl (vd_selfA _ _) ?_
          conv => whnf
          refine Hp.ld H 11 rfl rfl ?_
          conv => whnf
          refine CallK.mono (pcounts_call _ g s bR bV bM _ _ _ _ (pol_ob (i := 0) H rfl)) ?_
          rintro _ h21 ⟨k5, rfl⟩
          refine ⟨k5, ?_⟩
          replace H := H.and k5
          clear k5
          conv => whnf
          refine EqK.gen (EA_ok _) rfl (by kernel_rfl) rfl rfl (cnt_self (k0 + 1) k1 k2 k3) ?_
          conv => whnf
          repeat ((first | refine iteT (by omega) ?_ | refine iteF (by omega) ?_ | refine iteET (by omega) ?_ | refine iteEF (by omega) ?_ | refine iteNT (by omega) ?_ | refine iteNF (by omega) ?_ | refine WrapK.i64 (by omega) (by omega) ?_ | refine Drawn.mk (by kernel_rfl) ?_); conv => whnf)
          have hK0 : 0 ≤ (k0 + 1) ∧ (k0 + 1) ≤ ((i + 1 : Nat) : Int) := by omega
          have hK1 : 0 ≤ k1 ∧ k1 ≤ ((i + 1 : Nat) : Int) := by omega
          have hK2 : 0 ≤ k2 ∧ k2 ≤ ((i + 1 : Nat) : Int) := by omega
          have hK3 : 0 ≤ k3 ∧ k3 ≤ ((i + 1 : Nat) : Int) := by omega
          have hN : 0 ≤ now + d ∧ now + d ≤ 1099511627776 * ((i + 1 : Nat) : Int) := by omega
          have hi3 : i + 1 ≤ fs.length := by omega
          have hme : fs.length - (i + 1) < fs.length - i := by omega
          have mz2 : MZ w 3 (i + 1) M X Y Z := mz.more
          have H2 : Hp h0 h21 (pjB g g2 g6 g7 bR bV bM w (wbox w A0 A1 A2 D0 D1 D2 a0c a1c a2c d0c d1c d2c) s (othF 4) (k0 + 1) k1 k2 k3 R V M B X 3 Z Y ++ (Res.mp pI Rul.enc bT R :: zC g21 (k0 + 1) k1 k2 k3 :: [])) := (((H.drop 12).drop 12).drop 12).drop 12
          exact ⟨(i + 1, now + d, ((k0 + 1), k1, k2, k3), (X, Y, Z)), ⟨(by first | rfl | (show Value.int .i64 _ = _; congr 1; omega) | (show Value.int .i64 _ = _; rw [wrap64_id (by omega) (by omega)]; first | rfl | (congr 1; omega))), rfl, trivial⟩, (by repeat (first | exact trivial | refine ⟨rfl, ?_⟩)), ⟨hi3, hN, hK0, hK1, hK2, hK3, mz2, H2⟩, hme⟩
        subst hmt
        have hX := mz.all m hm3 hcf
        obtain ⟨z, hz, ez⟩ := hX
        have hp : ptq Z m = ptrV z.q := by rw [← ez]; exact ptq_mem mz.dn hz
        first | (refine iteT (show ((m : Nat) : Int) ≥ 0 by omega) ?_; conv => whnf) | (conv => whnf)
        refine Drawn.mk (by kernel_rfl) ?_
        conv => whnf
        refine Hp.ld H 15 rfl rfl ?_
        conv => whnf
        refine cnd_intro (by simp only [Bool.and_eq_true, decide_eq_true_eq]; omega) ?_
        conv => whnf
        refine Hp.ldAt H 8 rfl rfl rfl (o := m) (m_off m) (v := ptrV z.q) (ptq_at hm3 hp) ?_
        conv => whnf
        refine Hp.ld H 12 rfl rfl ?_
        conv => whnf
        have hin : (z.q, z.ms) ∈ Y := by rw [mz.hY]; exact List.mem_map_of_mem hz
        have hX : ∃ T, _ := (show (Res.mss Y).at_ _ from H.get 9 rfl) (z.q, z.ms) hin
        obtain ⟨T, hT⟩ := hX
        refine CallK.mono (mark_call z.ms z.q T fb (now + d) _ (mz.yes z hz).2.2.2.1 (by omega) hT) ?_
        rintro v h22 ⟨ev, kM, hM⟩
        have HH : Hp h0 h22 (pjB g g2 g6 g7 bR bV bM w (wbox w A0 A1 A2 D0 D1 D2 a0c a1c a2c d0c d1c d2c) s (othF 4) k0 k1 k2 k3 R V M B X 3 Z (Y.map fun y => if y.1 = z.q then (z.q, (z.ms.mark fb (now + d)).1) else y) ++ (Res.mp pI Rul.enc bT R :: zC g21 k0 k1 k2 k3 :: zF g23 fl fd fb fc2 fe :: zH g24 ⟨fl, fd, fb, fc2, fe⟩ :: zV g25 ⟨wantS fd, 0, fc2, fe⟩ :: zR g26 rm rg (m : Nat) :: [])) := Hp.mss_set H 9 rfl hin kM hM
        repeat clear H; clear kM hM
        have H := HH
        clear HH
        have hX : ∃ q, (z.ms.mark fb (now + d)).2 = q := ⟨_, rfl⟩
        obtain ⟨q, hq⟩ := hX
        rw [hq] at ev
        subst ev
        conv => whnf
        by_cases q2 : q = 2
        · refine iteET q2 ?_
          conv => whnf
          refine Hp.st H 14 rfl rfl rfl rfl rfl ?_
          clear H
          intro h H
          have HH : Hp h0 _ (pjB g g2 g6 g7 bR bV bM w (wbox w A0 A1 A2 D0 D1 D2 a0c a1c a2c d0c d1c d2c) s (othF 4) k0 k1 k2 k3 R V M B X 3 Z (Y.map fun y => if y.1 = z.q then (z.q, (z.ms.mark fb (now + d)).1) else y) ++ (Res.mp pI Rul.enc bT R :: zC g21 k0 k1 k2 k3 :: zF g23 fl fd fb fc2 fe :: zH g24 ⟨fl, fd, fb, fc2, fe⟩ :: zV g25 ⟨wantS fd, 3, fc2, fe⟩ :: zR g26 rm rg (m : Nat) :: [])) := H
          repeat clear H
          have H := HH
          clear HH
          conv => whnf
          refine Hp.ld H 14 rfl rfl ?_
          conv => whnf
          refine Hp.ld H 11 rfl rfl ?_
          conv => whnf
          refine WrapK.i64 (by omega) (by omega) ?_
          conv => whnf
          refine Hp.st H 11 rfl rfl rfl rfl rfl ?_
          clear H
          intro h H
          have HH : Hp h0 _ (pjB g g2 g6 g7 bR bV bM w (wbox w A0 A1 A2 D0 D1 D2 a0c a1c a2c d0c d1c d2c) s (othF 4) k0 k1 k2 k3 R V M B X 3 Z (Y.map fun y => if y.1 = z.q then (z.q, (z.ms.mark fb (now + d)).1) else y) ++ (Res.mp pI Rul.enc bT R :: zC g21 k0 k1 k2 (k3 + 1) :: zF g23 fl fd fb fc2 fe :: zH g24 ⟨fl, fd, fb, fc2, fe⟩ :: zV g25 ⟨wantS fd, 3, fc2, fe⟩ :: zR g26 rm rg (m : Nat) :: [])) := H
          repeat clear H
          have H := HH
          clear HH
          conv => whnf
          refine Drawn.keys [0, 1, 2, 3, 4, 5, 6] [(7, []), (8, [])] [9, 10, 11, 13, 12, 14, 15] (by kernel_rfl) ?_
          conv => whnf
          refine Hp.ld H 13 rfl rfl ?_
          conv => whnf
          refine Hp.ld H 12 rfl rfl ?_
          conv => whnf
          refine Hp.ld H 12 rfl rfl ?_
          conv => whnf
          refine ⟨fun D val h => ∃ x7 x8, val = vv x7 x8 ∧ (D 7 = true → x7 = .agg (Vd.cells ⟨wantS fd, 3, fc2, fe⟩).toArray) ∧ (D 8 = true → x8 = .agg (Vd.cells ⟨wantS fd, 3, fc2, fe⟩).toArray) ∧ (D 7 = false → Hp h0 h (pjB g g2 g6 g7 bR bV bM w (wbox w A0 A1 A2 D0 D1 D2 a0c a1c a2c d0c d1c d2c) s (othF 4) k0 k1 k2 k3 R V M B X 3 Z (Y.map fun y => if y.1 = z.q then (z.q, (z.ms.mark fb (now + d)).1) else y) ++ (Res.mp pI Rul.enc bT R :: zC g21 k0 k1 k2 (k3 + 1) :: zF g23 fl fd fb fc2 fe :: zH g24 ⟨fl, fd, fb, fc2, fe⟩ :: zV g25 ⟨wantS fd, 3, fc2, fe⟩ :: zR g26 rm rg (m : Nat) :: []))) ∧ (D 7 = true → Hp h0 h (pjB g g2 g6 g7 bR bV bM w (wbox w A0 A1 A2 D0 D1 D2 a0c a1c a2c d0c d1c d2c) s (othF 4) k0 k1 k2 (k3 + 1) R V M B (X.map fun y => if y.1 = z.b then (z.b, (z.ms.mark fb (now + d)).1) else y) 3 Z (Y.map fun y => if y.1 = z.q then (z.q, (z.ms.mark fb (now + d)).1) else y) ++ (Res.mp pI Rul.enc bT R :: zC g21 k0 k1 k2 (k3 + 1) :: zF g23 fl fd fb fc2 fe :: zH g24 ⟨fl, fd, fb, fc2, fe⟩ :: zV g25 ⟨wantS fd, 3, fc2, fe⟩ :: zR g26 rm rg (m : Nat) :: []))), vv (.bool false) (.bool false), ⟨_, _, rfl, fun h => absurd (show false = true from h) (by decide), fun h => absurd (show false = true from h) (by decide), fun _ => H, fun h => absurd (show false = true from h) (by decide)⟩, And.intro ?_ (And.intro ?_ trivial), ?_⟩
          · clear H
            rintro D val h ⟨x7, x8, rfl, v7, v8, hB, hA⟩
            have H := hB rfl
            clear hA hB
            conv => whnf
            refine CallK.mono (judge_call H (fH ⟨fl, fd, fb, fc2, fe⟩) 1 fb fc2 (now + d) (by rw [othF_length]; decide) (gr.ok gs mz) (by omega) (by omega) (by omega) (by omega) (by omega)) ?_
            rintro _ h2 ⟨e, d1, X1, hj, rfl, P⟩
            rw [fH_find] at hj
            have hj2 := jd_meter mz hj hr hnl hga hz (show ((m : Nat) : Int) = z.n by omega)
            rw [hq] at hj2
            obtain ⟨rfl, hj3⟩ := hj2
            rcases hj3 with ⟨_, rfl, rfl⟩ | ⟨h, _⟩
            rotate_left
            · exact absurd q2 h
            exact ⟨_, x8, vv_7 _ _ _, fun _ => rfl, v8, fun h => absurd (show true = false from h) (by decide), fun _ => P⟩
          · clear H
            rintro D val h ⟨x7, x8, rfl, v7, v8, hB, hA⟩
            have hX : D 7 = true ∨ D 7 = false := by cases D 7 <;> simp
            rcases hX with hD | hD
            · have H := hA hD
              conv => whnf
              refine Hp.ld H 14 rfl rfl ?_
              exact ⟨x7, _, vv_8 _ _ _, v7, fun _ => rfl, hB, hA⟩
            · have H := hB hD
              conv => whnf
              refine Hp.ld H 14 rfl rfl ?_
              exact ⟨x7, _, vv_8 _ _ _, v7, fun _ => rfl, hB, hA⟩
          clear H
          rintro val h20 ⟨x7, x8, rfl, v7, v8, _, hA⟩
          have H := hA rfl
          have e7 := v7 rfl
          have e8 := v8 rfl
          clear hA v7 v8
          subst e7
          subst e8
          conv => whnf
          refine EqK.gen (EA_ok _) (xs := Vd.cells ⟨wantS fd, 3, fc2, fe⟩) (ys := Vd.cells ⟨wantS fd, 3, fc2, fe⟩) rfl (by kernel_rfl) rfl rfl (vd_selfA _ _) ?_
          conv => whnf
          refine Hp.ld H 11 rfl rfl ?_
          conv => whnf
          refine CallK.mono (pcounts_call _ g s bR bV bM _ _ _ _ (pol_ob (i := 0) H rfl)) ?_
          rintro _ h21 ⟨k5, rfl⟩
          refine ⟨k5, ?_⟩
          replace H := H.and k5
          clear k5
          conv => whnf
          refine EqK.gen (EA_ok _) rfl (by kernel_rfl) rfl rfl (cnt_self k0 k1 k2 (k3 + 1)) ?_
          conv => whnf
          repeat ((first | refine iteT (by omega) ?_ | refine iteF (by omega) ?_ | refine iteET (by omega) ?_ | refine iteEF (by omega) ?_ | refine iteNT (by omega) ?_ | refine iteNF (by omega) ?_ | refine WrapK.i64 (by omega) (by omega) ?_ | refine Drawn.mk (by kernel_rfl) ?_); conv => whnf)
          have hK0 : 0 ≤ k0 ∧ k0 ≤ ((i + 1 : Nat) : Int) := by omega
          have hK1 : 0 ≤ k1 ∧ k1 ≤ ((i + 1 : Nat) : Int) := by omega
          have hK2 : 0 ≤ k2 ∧ k2 ≤ ((i + 1 : Nat) : Int) := by omega
          have hK3 : 0 ≤ (k3 + 1) ∧ (k3 + 1) ≤ ((i + 1 : Nat) : Int) := by omega
          have hN : 0 ≤ now + d ∧ now + d ≤ 1099511627776 * ((i + 1 : Nat) : Int) := by omega
          have hi3 : i + 1 ≤ fs.length := by omega
          have hme : fs.length - (i + 1) < fs.length - i := by omega
          have mz2 : MZ w 3 (i + 1) M (X.map fun y => if y.1 = z.b then (z.b, (z.ms.mark fb (now + d)).1) else y) (Y.map fun y => if y.1 = z.q then (z.q, (z.ms.mark fb (now + d)).1) else y) (askZ Z z (z.ms.mark fb (now + d)).1) := mz.ask (by omega) hz fb (now + d)
          have H2 : Hp h0 h21 (pjB g g2 g6 g7 bR bV bM w (wbox w A0 A1 A2 D0 D1 D2 a0c a1c a2c d0c d1c d2c) s (othF 4) k0 k1 k2 (k3 + 1) R V M B (X.map fun y => if y.1 = z.b then (z.b, (z.ms.mark fb (now + d)).1) else y) 3 Z (Y.map fun y => if y.1 = z.q then (z.q, (z.ms.mark fb (now + d)).1) else y) ++ (Res.mp pI Rul.enc bT R :: zC g21 k0 k1 k2 (k3 + 1) :: [])) := (((H.drop 12).drop 12).drop 12).drop 12
          have H3 : Hp h0 h21 (pjB g g2 g6 g7 bR bV bM w (wbox w A0 A1 A2 D0 D1 D2 a0c a1c a2c d0c d1c d2c) s (othF 4) k0 k1 k2 (k3 + 1) R V M B (X.map fun y => if y.1 = z.b then (z.b, (z.ms.mark fb (now + d)).1) else y) 3 (askZ Z z (z.ms.mark fb (now + d)).1) (Y.map fun y => if y.1 = z.q then (z.q, (z.ms.mark fb (now + d)).1) else y) ++ (Res.mp pI Rul.enc bT R :: zC g21 k0 k1 k2 (k3 + 1) :: [])) := Hp.eqs H2 (by unfold pjB; rw [ptq_ask, ptq_ask, ptq_ask])
          exact ⟨(i + 1, now + d, (k0, k1, k2, (k3 + 1)), ((X.map fun y => if y.1 = z.b then (z.b, (z.ms.mark fb (now + d)).1) else y), (Y.map fun y => if y.1 = z.q then (z.q, (z.ms.mark fb (now + d)).1) else y), (askZ Z z (z.ms.mark fb (now + d)).1))), ⟨(by first | rfl | (show Value.int .i64 _ = _; congr 1; omega) | (show Value.int .i64 _ = _; rw [wrap64_id (by omega) (by omega)]; first | rfl | (congr 1; omega))), rfl, trivial⟩, (by repeat (first | exact trivial | refine ⟨rfl, ?_⟩)), ⟨hi3, hN, hK0, hK1, hK2, hK3, mz2, H3⟩, hme⟩
        refine iteEF q2 ?_
        conv => whnf
        by_cases q1 : q = 1
        · refine iteET q1 ?_
          conv => whnf
          refine Hp.st H 14 rfl rfl rfl rfl rfl ?_
          clear H
          intro h H
          have HH : Hp h0 _ (pjB g g2 g6 g7 bR bV bM w (wbox w A0 A1 A2 D0 D1 D2 a0c a1c a2c d0c d1c d2c) s (othF 4) k0 k1 k2 k3 R V M B X 3 Z (Y.map fun y => if y.1 = z.q then (z.q, (z.ms.mark fb (now + d)).1) else y) ++ (Res.mp pI Rul.enc bT R :: zC g21 k0 k1 k2 k3 :: zF g23 fl fd fb fc2 fe :: zH g24 ⟨fl, fd, fb, fc2, fe⟩ :: zV g25 ⟨wantS fd, 0, fc2, true⟩ :: zR g26 rm rg (m : Nat) :: [])) := H
          repeat clear H
          have H := HH
          clear HH
          conv => whnf
          refine Hp.ld H 14 rfl rfl ?_
          conv => whnf
          refine Hp.ld H 11 rfl rfl ?_
          conv => whnf
          refine WrapK.i64 (by omega) (by omega) ?_
          conv => whnf
          refine Hp.st H 11 rfl rfl rfl rfl rfl ?_
          clear H
          intro h H
          have HH : Hp h0 _ (pjB g g2 g6 g7 bR bV bM w (wbox w A0 A1 A2 D0 D1 D2 a0c a1c a2c d0c d1c d2c) s (othF 4) k0 k1 k2 k3 R V M B X 3 Z (Y.map fun y => if y.1 = z.q then (z.q, (z.ms.mark fb (now + d)).1) else y) ++ (Res.mp pI Rul.enc bT R :: zC g21 (k0 + 1) k1 k2 k3 :: zF g23 fl fd fb fc2 fe :: zH g24 ⟨fl, fd, fb, fc2, fe⟩ :: zV g25 ⟨wantS fd, 0, fc2, true⟩ :: zR g26 rm rg (m : Nat) :: [])) := H
          repeat clear H
          have H := HH
          clear HH
          conv => whnf
          refine Drawn.keys [0, 1, 2, 3, 4, 5, 6] [(7, []), (8, [])] [9, 10, 11, 13, 12, 14, 15] (by kernel_rfl) ?_
          conv => whnf
          refine Hp.ld H 13 rfl rfl ?_
          conv => whnf
          refine Hp.ld H 12 rfl rfl ?_
          conv => whnf
          refine Hp.ld H 12 rfl rfl ?_
          conv => whnf
          refine ⟨fun D val h => ∃ x7 x8, val = vv x7 x8 ∧ (D 7 = true → x7 = .agg (Vd.cells ⟨wantS fd, 0, fc2, true⟩).toArray) ∧ (D 8 = true → x8 = .agg (Vd.cells ⟨wantS fd, 0, fc2, true⟩).toArray) ∧ (D 7 = false → Hp h0 h (pjB g g2 g6 g7 bR bV bM w (wbox w A0 A1 A2 D0 D1 D2 a0c a1c a2c d0c d1c d2c) s (othF 4) k0 k1 k2 k3 R V M B X 3 Z (Y.map fun y => if y.1 = z.q then (z.q, (z.ms.mark fb (now + d)).1) else y) ++ (Res.mp pI Rul.enc bT R :: zC g21 (k0 + 1) k1 k2 k3 :: zF g23 fl fd fb fc2 fe :: zH g24 ⟨fl, fd, fb, fc2, fe⟩ :: zV g25 ⟨wantS fd, 0, fc2, true⟩ :: zR g26 rm rg (m : Nat) :: []))) ∧ (D 7 = true → Hp h0 h (pjB g g2 g6 g7 bR bV bM w (wbox w A0 A1 A2 D0 D1 D2 a0c a1c a2c d0c d1c d2c) s (othF 4) (k0 + 1) k1 k2 k3 R V M B (X.map fun y => if y.1 = z.b then (z.b, (z.ms.mark fb (now + d)).1) else y) 3 Z (Y.map fun y => if y.1 = z.q then (z.q, (z.ms.mark fb (now + d)).1) else y) ++ (Res.mp pI Rul.enc bT R :: zC g21 (k0 + 1) k1 k2 k3 :: zF g23 fl fd fb fc2 fe :: zH g24 ⟨fl, fd, fb, fc2, fe⟩ :: zV g25 ⟨wantS fd, 0, fc2, true⟩ :: zR g26 rm rg (m : Nat) :: []))), vv (.bool false) (.bool false), ⟨_, _, rfl, fun h => absurd (show false = true from h) (by decide), fun h => absurd (show false = true from h) (by decide), fun _ => H, fun h => absurd (show false = true from h) (by decide)⟩, And.intro ?_ (And.intro ?_ trivial), ?_⟩
          · clear H
            rintro D val h ⟨x7, x8, rfl, v7, v8, hB, hA⟩
            have H := hB rfl
            clear hA hB
            conv => whnf
            refine CallK.mono (judge_call H (fH ⟨fl, fd, fb, fc2, fe⟩) 1 fb fc2 (now + d) (by rw [othF_length]; decide) (gr.ok gs mz) (by omega) (by omega) (by omega) (by omega) (by omega)) ?_
            rintro _ h2 ⟨e, d1, X1, hj, rfl, P⟩
            rw [fH_find] at hj
            have hj2 := jd_meter mz hj hr hnl hga hz (show ((m : Nat) : Int) = z.n by omega)
            rw [hq] at hj2
            obtain ⟨rfl, hj3⟩ := hj2
            rcases hj3 with ⟨h, _⟩ | ⟨_, rfl, hd1⟩
            · exact absurd h q2
            rw [decide_eq_true q1, Bool.or_true] at hd1
            subst hd1
            exact ⟨_, x8, vv_7 _ _ _, fun _ => rfl, v8, fun h => absurd (show true = false from h) (by decide), fun _ => P⟩
          · clear H
            rintro D val h ⟨x7, x8, rfl, v7, v8, hB, hA⟩
            have hX : D 7 = true ∨ D 7 = false := by cases D 7 <;> simp
            rcases hX with hD | hD
            · have H := hA hD
              conv => whnf
              refine Hp.ld H 14 rfl rfl ?_
              exact ⟨x7, _, vv_8 _ _ _, v7, fun _ => rfl, hB, hA⟩
            · have H := hB hD
              conv => whnf
              refine Hp.ld H 14 rfl rfl ?_
              exact ⟨x7, _, vv_8 _ _ _, v7, fun _ => rfl, hB, hA⟩
          clear H
          rintro val h20 ⟨x7, x8, rfl, v7, v8, _, hA⟩
          have H := hA rfl
          have e7 := v7 rfl
          have e8 := v8 rfl
          clear hA v7 v8
          subst e7
          subst e8
          conv => whnf
          refine EqK.gen (EA_ok _) (xs := Vd.cells ⟨wantS fd, 0, fc2, true⟩) (ys := Vd.cells ⟨wantS fd, 0, fc2, true⟩) rfl (by kernel_rfl) rfl rfl (vd_selfA _ _) ?_
          conv => whnf
          refine Hp.ld H 11 rfl rfl ?_
          conv => whnf
          refine CallK.mono (pcounts_call _ g s bR bV bM _ _ _ _ (pol_ob (i := 0) H rfl)) ?_
          rintro _ h21 ⟨k5, rfl⟩
          refine ⟨k5, ?_⟩
          replace H := H.and k5
          clear k5
          conv => whnf
          refine EqK.gen (EA_ok _) rfl (by kernel_rfl) rfl rfl (cnt_self (k0 + 1) k1 k2 k3) ?_
          conv => whnf
          repeat ((first | refine iteT (by omega) ?_ | refine iteF (by omega) ?_ | refine iteET (by omega) ?_ | refine iteEF (by omega) ?_ | refine iteNT (by omega) ?_ | refine iteNF (by omega) ?_ | refine WrapK.i64 (by omega) (by omega) ?_ | refine Drawn.mk (by kernel_rfl) ?_); conv => whnf)
          have hK0 : 0 ≤ (k0 + 1) ∧ (k0 + 1) ≤ ((i + 1 : Nat) : Int) := by omega
          have hK1 : 0 ≤ k1 ∧ k1 ≤ ((i + 1 : Nat) : Int) := by omega
          have hK2 : 0 ≤ k2 ∧ k2 ≤ ((i + 1 : Nat) : Int) := by omega
          have hK3 : 0 ≤ k3 ∧ k3 ≤ ((i + 1 : Nat) : Int) := by omega
          have hN : 0 ≤ now + d ∧ now + d ≤ 1099511627776 * ((i + 1 : Nat) : Int) := by omega
          have hi3 : i + 1 ≤ fs.length := by omega
          have hme : fs.length - (i + 1) < fs.length - i := by omega
          have mz2 : MZ w 3 (i + 1) M (X.map fun y => if y.1 = z.b then (z.b, (z.ms.mark fb (now + d)).1) else y) (Y.map fun y => if y.1 = z.q then (z.q, (z.ms.mark fb (now + d)).1) else y) (askZ Z z (z.ms.mark fb (now + d)).1) := mz.ask (by omega) hz fb (now + d)
          have H2 : Hp h0 h21 (pjB g g2 g6 g7 bR bV bM w (wbox w A0 A1 A2 D0 D1 D2 a0c a1c a2c d0c d1c d2c) s (othF 4) (k0 + 1) k1 k2 k3 R V M B (X.map fun y => if y.1 = z.b then (z.b, (z.ms.mark fb (now + d)).1) else y) 3 Z (Y.map fun y => if y.1 = z.q then (z.q, (z.ms.mark fb (now + d)).1) else y) ++ (Res.mp pI Rul.enc bT R :: zC g21 (k0 + 1) k1 k2 k3 :: [])) := (((H.drop 12).drop 12).drop 12).drop 12
          have H3 : Hp h0 h21 (pjB g g2 g6 g7 bR bV bM w (wbox w A0 A1 A2 D0 D1 D2 a0c a1c a2c d0c d1c d2c) s (othF 4) (k0 + 1) k1 k2 k3 R V M B (X.map fun y => if y.1 = z.b then (z.b, (z.ms.mark fb (now + d)).1) else y) 3 (askZ Z z (z.ms.mark fb (now + d)).1) (Y.map fun y => if y.1 = z.q then (z.q, (z.ms.mark fb (now + d)).1) else y) ++ (Res.mp pI Rul.enc bT R :: zC g21 (k0 + 1) k1 k2 k3 :: [])) := Hp.eqs H2 (by unfold pjB; rw [ptq_ask, ptq_ask, ptq_ask])
          exact ⟨(i + 1, now + d, ((k0 + 1), k1, k2, k3), ((X.map fun y => if y.1 = z.b then (z.b, (z.ms.mark fb (now + d)).1) else y), (Y.map fun y => if y.1 = z.q then (z.q, (z.ms.mark fb (now + d)).1) else y), (askZ Z z (z.ms.mark fb (now + d)).1))), ⟨(by first | rfl | (show Value.int .i64 _ = _; congr 1; omega) | (show Value.int .i64 _ = _; rw [wrap64_id (by omega) (by omega)]; first | rfl | (congr 1; omega))), rfl, trivial⟩, (by repeat (first | exact trivial | refine ⟨rfl, ?_⟩)), ⟨hi3, hN, hK0, hK1, hK2, hK3, mz2, H3⟩, hme⟩
        refine iteEF q1 ?_
        conv => whnf
        refine Hp.ld H 14 rfl rfl ?_
        conv => whnf
        refine Hp.ld H 11 rfl rfl ?_
        conv => whnf
        refine WrapK.i64 (by omega) (by omega) ?_
        conv => whnf
        refine Hp.st H 11 rfl rfl rfl rfl rfl ?_
        clear H
        intro h H
        have HH : Hp h0 _ (pjB g g2 g6 g7 bR bV bM w (wbox w A0 A1 A2 D0 D1 D2 a0c a1c a2c d0c d1c d2c) s (othF 4) k0 k1 k2 k3 R V M B X 3 Z (Y.map fun y => if y.1 = z.q then (z.q, (z.ms.mark fb (now + d)).1) else y) ++ (Res.mp pI Rul.enc bT R :: zC g21 (k0 + 1) k1 k2 k3 :: zF g23 fl fd fb fc2 fe :: zH g24 ⟨fl, fd, fb, fc2, fe⟩ :: zV g25 ⟨wantS fd, 0, fc2, fe⟩ :: zR g26 rm rg (m : Nat) :: [])) := H
        repeat clear H
        have H := HH
        clear HH
        conv => whnf
        refine Drawn.keys [0, 1, 2, 3, 4, 5, 6] [(7, []), (8, [])] [9, 10, 11, 13, 12, 14, 15] (by kernel_rfl) ?_
        conv => whnf
        refine Hp.ld H 13 rfl rfl ?_
        conv => whnf
        refine Hp.ld H 12 rfl rfl ?_
        conv => whnf
        refine Hp.ld H 12 rfl rfl ?_
        conv => whnf
        refine ⟨fun D val h => ∃ x7 x8, val = vv x7 x8 ∧ (D 7 = true → x7 = .agg (Vd.cells ⟨wantS fd, 0, fc2, fe⟩).toArray) ∧ (D 8 = true → x8 = .agg (Vd.cells ⟨wantS fd, 0, fc2, fe⟩).toArray) ∧ (D 7 = false → Hp h0 h (pjB g g2 g6 g7 bR bV bM w (wbox w A0 A1 A2 D0 D1 D2 a0c a1c a2c d0c d1c d2c) s (othF 4) k0 k1 k2 k3 R V M B X 3 Z (Y.map fun y => if y.1 = z.q then (z.q, (z.ms.mark fb (now + d)).1) else y) ++ (Res.mp pI Rul.enc bT R :: zC g21 (k0 + 1) k1 k2 k3 :: zF g23 fl fd fb fc2 fe :: zH g24 ⟨fl, fd, fb, fc2, fe⟩ :: zV g25 ⟨wantS fd, 0, fc2, fe⟩ :: zR g26 rm rg (m : Nat) :: []))) ∧ (D 7 = true → Hp h0 h (pjB g g2 g6 g7 bR bV bM w (wbox w A0 A1 A2 D0 D1 D2 a0c a1c a2c d0c d1c d2c) s (othF 4) (k0 + 1) k1 k2 k3 R V M B (X.map fun y => if y.1 = z.b then (z.b, (z.ms.mark fb (now + d)).1) else y) 3 Z (Y.map fun y => if y.1 = z.q then (z.q, (z.ms.mark fb (now + d)).1) else y) ++ (Res.mp pI Rul.enc bT R :: zC g21 (k0 + 1) k1 k2 k3 :: zF g23 fl fd fb fc2 fe :: zH g24 ⟨fl, fd, fb, fc2, fe⟩ :: zV g25 ⟨wantS fd, 0, fc2, fe⟩ :: zR g26 rm rg (m : Nat) :: []))), vv (.bool false) (.bool false), ⟨_, _, rfl, fun h => absurd (show false = true from h) (by decide), fun h => absurd (show false = true from h) (by decide), fun _ => H, fun h => absurd (show false = true from h) (by decide)⟩, And.intro ?_ (And.intro ?_ trivial), ?_⟩
        · clear H
          rintro D val h ⟨x7, x8, rfl, v7, v8, hB, hA⟩
          have H := hB rfl
          clear hA hB
          conv => whnf
          refine CallK.mono (judge_call H (fH ⟨fl, fd, fb, fc2, fe⟩) 1 fb fc2 (now + d) (by rw [othF_length]; decide) (gr.ok gs mz) (by omega) (by omega) (by omega) (by omega) (by omega)) ?_
          rintro _ h2 ⟨e, d1, X1, hj, rfl, P⟩
          rw [fH_find] at hj
          have hj2 := jd_meter mz hj hr hnl hga hz (show ((m : Nat) : Int) = z.n by omega)
          rw [hq] at hj2
          obtain ⟨rfl, hj3⟩ := hj2
          rcases hj3 with ⟨h, _⟩ | ⟨_, rfl, hd1⟩
          · exact absurd h q2
          rw [decide_eq_false q1, Bool.or_false] at hd1
          subst hd1
          exact ⟨_, x8, vv_7 _ _ _, fun _ => rfl, v8, fun h => absurd (show true = false from h) (by decide), fun _ => P⟩
        · clear H
          rintro D val h ⟨x7, x8, rfl, v7, v8, hB, hA⟩
          have hX : D 7 = true ∨ D 7 = false := by cases D 7 <;> simp
          rcases hX with hD | hD
          · have H := hA hD
            conv => whnf
            refine Hp.ld H 14 rfl rfl ?_
            exact ⟨x7, _, vv_8 _ _ _, v7, fun _ => rfl, hB, hA⟩
          · have H := hB hD
            conv => whnf
            refine Hp.ld H 14 rfl rfl ?_
            exact ⟨x7, _, vv_8 _ _ _, v7, fun _ => rfl, hB, hA⟩
        clear H
        rintro val h20 ⟨x7, x8, rfl, v7, v8, _, hA⟩
        have H := hA rfl
        have e7 := v7 rfl
        have e8 := v8 rfl
        clear hA v7 v8
        subst e7
        subst e8
        conv => whnf
        refine EqK.gen (EA_ok _) (xs := Vd.cells ⟨wantS fd, 0, fc2, fe⟩) (ys := Vd.cells ⟨wantS fd, 0, fc2, fe⟩) rfl (by kernel_rfl) rfl rfl (vd_selfA _ _) ?_
        conv => whnf
        refine Hp.ld H 11 rfl rfl ?_
        conv => whnf
        refine CallK.mono (pcounts_call _ g s bR bV bM _ _ _ _ (pol_ob (i := 0) H rfl)) ?_
        rintro _ h21 ⟨k5, rfl⟩
        refine ⟨k5, ?_⟩
        replace H := H.and k5
        clear k5
        conv => whnf
        refine EqK.gen (EA_ok _) rfl (by kernel_rfl) rfl rfl (cnt_self (k0 + 1) k1 k2 k3) ?_
        conv => whnf
        repeat ((first | refine iteT (by omega) ?_ | refine iteF (by omega) ?_ | refine iteET (by omega) ?_ | refine iteEF (by omega) ?_ | refine iteNT (by omega) ?_ | refine iteNF (by omega) ?_ | refine WrapK.i64 (by omega) (by omega) ?_ | refine Drawn.mk (by kernel_rfl) ?_); conv => whnf)
        have hK0 : 0 ≤ (k0 + 1) ∧ (k0 + 1) ≤ ((i + 1 : Nat) : Int) := by omega
        have hK1 : 0 ≤ k1 ∧ k1 ≤ ((i + 1 : Nat) : Int) := by omega
        have hK2 : 0 ≤ k2 ∧ k2 ≤ ((i + 1 : Nat) : Int) := by omega
        have hK3 : 0 ≤ k3 ∧ k3 ≤ ((i + 1 : Nat) : Int) := by omega
        have hN : 0 ≤ now + d ∧ now + d ≤ 1099511627776 * ((i + 1 : Nat) : Int) := by omega
        have hi3 : i + 1 ≤ fs.length := by omega
        have hme : fs.length - (i + 1) < fs.length - i := by omega
        have mz2 : MZ w 3 (i + 1) M (X.map fun y => if y.1 = z.b then (z.b, (z.ms.mark fb (now + d)).1) else y) (Y.map fun y => if y.1 = z.q then (z.q, (z.ms.mark fb (now + d)).1) else y) (askZ Z z (z.ms.mark fb (now + d)).1) := mz.ask (by omega) hz fb (now + d)
        have H2 : Hp h0 h21 (pjB g g2 g6 g7 bR bV bM w (wbox w A0 A1 A2 D0 D1 D2 a0c a1c a2c d0c d1c d2c) s (othF 4) (k0 + 1) k1 k2 k3 R V M B (X.map fun y => if y.1 = z.b then (z.b, (z.ms.mark fb (now + d)).1) else y) 3 Z (Y.map fun y => if y.1 = z.q then (z.q, (z.ms.mark fb (now + d)).1) else y) ++ (Res.mp pI Rul.enc bT R :: zC g21 (k0 + 1) k1 k2 k3 :: [])) := (((H.drop 12).drop 12).drop 12).drop 12
        have H3 : Hp h0 h21 (pjB g g2 g6 g7 bR bV bM w (wbox w A0 A1 A2 D0 D1 D2 a0c a1c a2c d0c d1c d2c) s (othF 4) (k0 + 1) k1 k2 k3 R V M B (X.map fun y => if y.1 = z.b then (z.b, (z.ms.mark fb (now + d)).1) else y) 3 (askZ Z z (z.ms.mark fb (now + d)).1) (Y.map fun y => if y.1 = z.q then (z.q, (z.ms.mark fb (now + d)).1) else y) ++ (Res.mp pI Rul.enc bT R :: zC g21 (k0 + 1) k1 k2 k3 :: [])) := Hp.eqs H2 (by unfold pjB; rw [ptq_ask, ptq_ask, ptq_ask])
        exact ⟨(i + 1, now + d, ((k0 + 1), k1, k2, k3), ((X.map fun y => if y.1 = z.b then (z.b, (z.ms.mark fb (now + d)).1) else y), (Y.map fun y => if y.1 = z.q then (z.q, (z.ms.mark fb (now + d)).1) else y), (askZ Z z (z.ms.mark fb (now + d)).1))), ⟨(by first | rfl | (show Value.int .i64 _ = _; congr 1; omega) | (show Value.int .i64 _ = _; rw [wrap64_id (by omega) (by omega)]; first | rfl | (congr 1; omega))), rfl, trivial⟩, (by repeat (first | exact trivial | refine ⟨rfl, ?_⟩)), ⟨hi3, hN, hK0, hK1, hK2, hK3, mz2, H3⟩, hme⟩
      · subst hgn
        conv => whnf
        refine Hp.ld H 15 rfl rfl ?_
        conv => whnf
        first | (refine iteT (show ((n : Nat) : Int) ≥ 0 by omega) ?_; conv => whnf) | (conv => whnf)
        refine Hp.ld H 6 rfl rfl ?_
        conv => whnf
        refine Hp.ld H 15 rfl rfl ?_
        conv => whnf
        have hlo : (w.gl n).Ok := Gl.check_ok (goodB_true.1 hgd).1
        have hN0 : 0 ≤ now + d ∧ now + d ≤ 9000000000000000000 := by omega
        have d1 := open_call _ w n (now + d) (hw.keep H.keep) hn3 hlo hN0
        rw [hcells] at d1
        refine CallK.mono d1 ?_
        clear d1
        rintro v h17 ⟨k5, ev⟩
        replace H := H.and k5
        clear k5
        have hga := gate_on gs (r := ⟨rm, n, rt⟩) hn3 rfl hgd (now + d) fc2
        have hX : opnF (w.gl n) (now + d) = true ∨ opnF (w.gl n) (now + d) = false := by cases opnF (w.gl n) (now + d) <;> simp
        rcases hX with ho | ho
        rotate_left
        · rw [ho] at ev hga
          subst ev
          rw [if_neg (by decide)] at hga
          conv => whnf
          refine Hp.st H 14 rfl rfl rfl rfl rfl ?_
          clear H
          intro h H
          have HH : Hp h0 _ (pjB g g2 g6 g7 bR bV bM w (wbox w A0 A1 A2 D0 D1 D2 a0c a1c a2c d0c d1c d2c) s (othF 4) k0 k1 k2 k3 R V M B X 3 Z Y ++ (Res.mp pI Rul.enc bT R :: zC g21 k0 k1 k2 k3 :: zF g23 fl fd fb fc2 fe :: zH g24 ⟨fl, fd, fb, fc2, fe⟩ :: zV g25 ⟨wantS fd, 2, fc2, fe⟩ :: zR g26 rm (n : Nat) rt :: [])) := H
          repeat clear H
          have H := HH
          clear HH
          conv => whnf
          refine Hp.ld H 14 rfl rfl ?_
          conv => whnf
          refine Hp.ld H 11 rfl rfl ?_
          conv => whnf
          refine WrapK.i64 (by omega) (by omega) ?_
          conv => whnf
          refine Hp.st H 11 rfl rfl rfl rfl rfl ?_
          clear H
          intro h H
          have HH : Hp h0 _ (pjB g g2 g6 g7 bR bV bM w (wbox w A0 A1 A2 D0 D1 D2 a0c a1c a2c d0c d1c d2c) s (othF 4) k0 k1 k2 k3 R V M B X 3 Z Y ++ (Res.mp pI Rul.enc bT R :: zC g21 k0 k1 (k2 + 1) k3 :: zF g23 fl fd fb fc2 fe :: zH g24 ⟨fl, fd, fb, fc2, fe⟩ :: zV g25 ⟨wantS fd, 2, fc2, fe⟩ :: zR g26 rm (n : Nat) rt :: [])) := H
          repeat clear H
          have H := HH
          clear HH
          conv => whnf
          refine Drawn.keys [0, 1, 2, 3, 4, 5, 6] [(7, []), (8, [])] [9, 10, 11, 13, 12, 14, 15] (by kernel_rfl) ?_
          conv => whnf
          refine Hp.ld H 13 rfl rfl ?_
          conv => whnf
          refine Hp.ld H 12 rfl rfl ?_
          conv => whnf
          refine Hp.ld H 12 rfl rfl ?_
          conv => whnf
          refine ⟨fun D val h => ∃ x7 x8, val = vv x7 x8 ∧ (D 7 = true → x7 = .agg (Vd.cells ⟨wantS fd, 2, fc2, fe⟩).toArray) ∧ (D 8 = true → x8 = .agg (Vd.cells ⟨wantS fd, 2, fc2, fe⟩).toArray) ∧ (D 7 = false → Hp h0 h (pjB g g2 g6 g7 bR bV bM w (wbox w A0 A1 A2 D0 D1 D2 a0c a1c a2c d0c d1c d2c) s (othF 4) k0 k1 k2 k3 R V M B X 3 Z Y ++ (Res.mp pI Rul.enc bT R :: zC g21 k0 k1 (k2 + 1) k3 :: zF g23 fl fd fb fc2 fe :: zH g24 ⟨fl, fd, fb, fc2, fe⟩ :: zV g25 ⟨wantS fd, 2, fc2, fe⟩ :: zR g26 rm (n : Nat) rt :: []))) ∧ (D 7 = true → Hp h0 h (pjB g g2 g6 g7 bR bV bM w (wbox w A0 A1 A2 D0 D1 D2 a0c a1c a2c d0c d1c d2c) s (othF 4) k0 k1 (k2 + 1) k3 R V M B X 3 Z Y ++ (Res.mp pI Rul.enc bT R :: zC g21 k0 k1 (k2 + 1) k3 :: zF g23 fl fd fb fc2 fe :: zH g24 ⟨fl, fd, fb, fc2, fe⟩ :: zV g25 ⟨wantS fd, 2, fc2, fe⟩ :: zR g26 rm (n : Nat) rt :: []))), vv (.bool false) (.bool false), ⟨_, _, rfl, fun h => absurd (show false = true from h) (by decide), fun h => absurd (show false = true from h) (by decide), fun _ => H, fun h => absurd (show false = true from h) (by decide)⟩, And.intro ?_ (And.intro ?_ trivial), ?_⟩
          · clear H
            rintro D val h ⟨x7, x8, rfl, v7, v8, hB, hA⟩
            have H := hB rfl
            clear hA hB
            conv => whnf
            refine CallK.mono (judge_call H (fH ⟨fl, fd, fb, fc2, fe⟩) 1 fb fc2 (now + d) (by rw [othF_length]; decide) (gr.ok gs mz) (by omega) (by omega) (by omega) (by omega) (by omega)) ?_
            rintro _ h2 ⟨e, d1, X1, hj, rfl, P⟩
            rw [fH_find] at hj
            have hj2 := jd_closed hj hr hnl hga
            obtain ⟨rfl, rfl, rfl⟩ := hj2
            exact ⟨_, x8, vv_7 _ _ _, fun _ => rfl, v8, fun h => absurd (show true = false from h) (by decide), fun _ => P⟩
          · clear H
            rintro D val h ⟨x7, x8, rfl, v7, v8, hB, hA⟩
            have hX : D 7 = true ∨ D 7 = false := by cases D 7 <;> simp
            rcases hX with hD | hD
            · have H := hA hD
              conv => whnf
              refine Hp.ld H 14 rfl rfl ?_
              exact ⟨x7, _, vv_8 _ _ _, v7, fun _ => rfl, hB, hA⟩
            · have H := hB hD
              conv => whnf
              refine Hp.ld H 14 rfl rfl ?_
              exact ⟨x7, _, vv_8 _ _ _, v7, fun _ => rfl, hB, hA⟩
          clear H
          rintro val h20 ⟨x7, x8, rfl, v7, v8, _, hA⟩
          have H := hA rfl
          have e7 := v7 rfl
          have e8 := v8 rfl
          clear hA v7 v8
          subst e7
          subst e8
          conv => whnf
          refine EqK.gen (EA_ok _) (xs := Vd.cells ⟨wantS fd, 2, fc2, fe⟩) (ys := Vd.cells ⟨wantS fd, 2, fc2, fe⟩) rfl (by kernel_rfl) rfl rfl (vd_selfA _ _) ?_
          conv => whnf
          refine Hp.ld H 11 rfl rfl ?_
          conv => whnf
          refine CallK.mono (pcounts_call _ g s bR bV bM _ _ _ _ (pol_ob (i := 0) H rfl)) ?_
          rintro _ h21 ⟨k5, rfl⟩
          refine ⟨k5, ?_⟩
          replace H := H.and k5
          clear k5
          conv => whnf
          refine EqK.gen (EA_ok _) rfl (by kernel_rfl) rfl rfl (cnt_self k0 k1 (k2 + 1) k3) ?_
          conv => whnf
          repeat ((first | refine iteT (by omega) ?_ | refine iteF (by omega) ?_ | refine iteET (by omega) ?_ | refine iteEF (by omega) ?_ | refine iteNT (by omega) ?_ | refine iteNF (by omega) ?_ | refine WrapK.i64 (by omega) (by omega) ?_ | refine Drawn.mk (by kernel_rfl) ?_); conv => whnf)
          have hK0 : 0 ≤ k0 ∧ k0 ≤ ((i + 1 : Nat) : Int) := by omega
          have hK1 : 0 ≤ k1 ∧ k1 ≤ ((i + 1 : Nat) : Int) := by omega
          have hK2 : 0 ≤ (k2 + 1) ∧ (k2 + 1) ≤ ((i + 1 : Nat) : Int) := by omega
          have hK3 : 0 ≤ k3 ∧ k3 ≤ ((i + 1 : Nat) : Int) := by omega
          have hN : 0 ≤ now + d ∧ now + d ≤ 1099511627776 * ((i + 1 : Nat) : Int) := by omega
          have hi3 : i + 1 ≤ fs.length := by omega
          have hme : fs.length - (i + 1) < fs.length - i := by omega
          have mz2 : MZ w 3 (i + 1) M X Y Z := mz.more
          have H2 : Hp h0 h21 (pjB g g2 g6 g7 bR bV bM w (wbox w A0 A1 A2 D0 D1 D2 a0c a1c a2c d0c d1c d2c) s (othF 4) k0 k1 (k2 + 1) k3 R V M B X 3 Z Y ++ (Res.mp pI Rul.enc bT R :: zC g21 k0 k1 (k2 + 1) k3 :: [])) := (((H.drop 12).drop 12).drop 12).drop 12
          exact ⟨(i + 1, now + d, (k0, k1, (k2 + 1), k3), (X, Y, Z)), ⟨(by first | rfl | (show Value.int .i64 _ = _; congr 1; omega) | (show Value.int .i64 _ = _; rw [wrap64_id (by omega) (by omega)]; first | rfl | (congr 1; omega))), rfl, trivial⟩, (by repeat (first | exact trivial | refine ⟨rfl, ?_⟩)), ⟨hi3, hN, hK0, hK1, hK2, hK3, mz2, H2⟩, hme⟩
        rw [ho] at ev hga
        subst ev
        rw [if_pos rfl] at hga
        conv => whnf
        refine Hp.ld H 15 rfl rfl ?_
        conv => whnf
        first | (refine iteT (show ((n : Nat) : Int) ≥ 0 by omega) ?_; conv => whnf) | (conv => whnf)
        refine Hp.ld H 6 rfl rfl ?_
        conv => whnf
        refine Hp.ld H 15 rfl rfl ?_
        conv => whnf
        have d1 := class_call _ w n (now + d) (hw.keep H.keep) hn3 hlo (goodB_true.1 hgd).2.1 hN0
        rw [hcells] at d1
        refine CallK.mono d1 ?_
        clear d1
        rintro v h18 ⟨k5, ev⟩
        replace H := H.and k5
        clear k5
        have hX : ∃ c, clsF (w.gl n) (w.gc n) (now + d) = c := ⟨_, rfl⟩
        obtain ⟨c, hcl⟩ := hX
        rw [hcl] at ev hga
        subst ev
        have hX : ∃ c2, (if c ≥ 0 then c else fc2) = c2 := ⟨_, rfl⟩
        obtain ⟨c2, hc2⟩ := hX
        rw [hc2] at hga
        revert H
        revert h18
        apply joinH (R := fun h => Hp h0 h (pjB g g2 g6 g7 bR bV bM w (wbox w A0 A1 A2 D0 D1 D2 a0c a1c a2c d0c d1c d2c) s (othF 4) k0 k1 k2 k3 R V M B X 3 Z Y ++ (Res.mp pI Rul.enc bT R :: zC g21 k0 k1 k2 k3 :: zF g23 fl fd fb fc2 fe :: zH g24 ⟨fl, fd, fb, fc2, fe⟩ :: zV g25 ⟨wantS fd, 0, c2, fe⟩ :: zR g26 rm (n : Nat) rt :: [])))
        case hg =>
          intro key h H
          conv => whnf
          by_cases cc : c ≥ 0
          · have e : c = c2 := by rw [← hc2, if_pos cc]
            refine iteT cc ?_
            conv => whnf
            refine Hp.st H 14 rfl rfl rfl rfl rfl ?_
            clear H
            intro h H
            conv => whnf
            have HH : Hp h0 _ (pjB g g2 g6 g7 bR bV bM w (wbox w A0 A1 A2 D0 D1 D2 a0c a1c a2c d0c d1c d2c) s (othF 4) k0 k1 k2 k3 R V M B X 3 Z Y ++ (Res.mp pI Rul.enc bT R :: zC g21 k0 k1 k2 k3 :: zF g23 fl fd fb fc2 fe :: zH g24 ⟨fl, fd, fb, fc2, fe⟩ :: zV g25 ⟨wantS fd, 0, c2, fe⟩ :: zR g26 rm (n : Nat) rt :: [])) := Hp.eqs H (by rw [e]; rfl)
            repeat clear H
            have H := HH
            clear HH
            exact key _ H
          · have e : fc2 = c2 := by rw [← hc2, if_neg cc]
            refine iteF cc ?_
            conv => whnf
            exact key _ (Hp.eqs H (by rw [e]))
        case hp =>
          clear hc2
          intro h19 H
          conv => whnf
          refine Hp.ld H 15 rfl rfl ?_
          conv => whnf
          rcases hom with ht0 | ⟨m, hm3, hmt, hcf⟩
          · refine iteF (show ¬ rt ≥ 0 by omega) ?_
            conv => whnf
            refine Hp.ld H 14 rfl rfl ?_
            conv => whnf
            refine Hp.ld H 11 rfl rfl ?_
            conv => whnf
            refine WrapK.i64 (by omega) (by omega) ?_
            conv => whnf
            refine Hp.st H 11 rfl rfl rfl rfl rfl ?_
            clear H
            intro h H
            have HH : Hp h0 _ (pjB g g2 g6 g7 bR bV bM w (wbox w A0 A1 A2 D0 D1 D2 a0c a1c a2c d0c d1c d2c) s (othF 4) k0 k1 k2 k3 R V M B X 3 Z Y ++ (Res.mp pI Rul.enc bT R :: zC g21 (k0 + 1) k1 k2 k3 :: zF g23 fl fd fb fc2 fe :: zH g24 ⟨fl, fd, fb, fc2, fe⟩ :: zV g25 ⟨wantS fd, 0, c2, fe⟩ :: zR g26 rm (n : Nat) rt :: [])) := H
            repeat clear H
            have H := HH
            clear HH
            conv => whnf
            refine Drawn.keys [0, 1, 2, 3, 4, 5, 6] [(7, []), (8, [])] [9, 10, 11, 13, 12, 14, 15] (by kernel_rfl) ?_
            conv => whnf
            refine Hp.ld H 13 rfl rfl ?_
            conv => whnf
            refine Hp.ld H 12 rfl rfl ?_
            conv => whnf
            refine Hp.ld H 12 rfl rfl ?_
            conv => whnf
            refine ⟨fun D val h => ∃ x7 x8, val = vv x7 x8 ∧ (D 7 = true → x7 = .agg (Vd.cells ⟨wantS fd, 0, c2, fe⟩).toArray) ∧ (D 8 = true → x8 = .agg (Vd.cells ⟨wantS fd, 0, c2, fe⟩).toArray) ∧ (D 7 = false → Hp h0 h (pjB g g2 g6 g7 bR bV bM w (wbox w A0 A1 A2 D0 D1 D2 a0c a1c a2c d0c d1c d2c) s (othF 4) k0 k1 k2 k3 R V M B X 3 Z Y ++ (Res.mp pI Rul.enc bT R :: zC g21 (k0 + 1) k1 k2 k3 :: zF g23 fl fd fb fc2 fe :: zH g24 ⟨fl, fd, fb, fc2, fe⟩ :: zV g25 ⟨wantS fd, 0, c2, fe⟩ :: zR g26 rm (n : Nat) rt :: []))) ∧ (D 7 = true → Hp h0 h (pjB g g2 g6 g7 bR bV bM w (wbox w A0 A1 A2 D0 D1 D2 a0c a1c a2c d0c d1c d2c) s (othF 4) (k0 + 1) k1 k2 k3 R V M B X 3 Z Y ++ (Res.mp pI Rul.enc bT R :: zC g21 (k0 + 1) k1 k2 k3 :: zF g23 fl fd fb fc2 fe :: zH g24 ⟨fl, fd, fb, fc2, fe⟩ :: zV g25 ⟨wantS fd, 0, c2, fe⟩ :: zR g26 rm (n : Nat) rt :: []))), vv (.bool false) (.bool false), ⟨_, _, rfl, fun h => absurd (show false = true from h) (by decide), fun h => absurd (show false = true from h) (by decide), fun _ => H, fun h => absurd (show false = true from h) (by decide)⟩, And.intro ?_ (And.intro ?_ trivial), ?_⟩
            · clear H
              rintro D val h ⟨x7, x8, rfl, v7, v8, hB, hA⟩
              have H := hB rfl
              clear hA hB
              conv => whnf
              refine CallK.mono (judge_call H (fH ⟨fl, fd, fb, fc2, fe⟩) 1 fb fc2 (now + d) (by rw [othF_length]; decide) (gr.ok gs mz) (by omega) (by omega) (by omega) (by omega) (by omega)) ?_
              rintro _ h2 ⟨e, d1, X1, hj, rfl, P⟩
              rw [fH_find] at hj
              have hj2 := jd_pass hj hr hnl hga ht0
              obtain ⟨rfl, rfl, rfl⟩ := hj2
              exact ⟨_, x8, vv_7 _ _ _, fun _ => rfl, v8, fun h => absurd (show true = false from h) (by decide), fun _ => P⟩
            · clear H
              rintro D val h ⟨x7, x8, rfl, v7, v8, hB, hA⟩
              have hX : D 7 = true ∨ D 7 = false := by cases D 7 <;> simp
              rcases hX with hD | hD
              · have H := hA hD
                conv => whnf
                refine Hp.ld H 14 rfl rfl ?_
                exact ⟨x7, _, vv_8 _ _ _, v7, fun _ => rfl, hB, hA⟩
              · have H := hB hD
                conv => whnf
                refine Hp.ld H 14 rfl rfl ?_
                exact ⟨x7, _, vv_8 _ _ _, v7, fun _ => rfl, hB, hA⟩
            clear H
            rintro val h20 ⟨x7, x8, rfl, v7, v8, _, hA⟩
            have H := hA rfl
            have e7 := v7 rfl
            have e8 := v8 rfl
            clear hA v7 v8
            subst e7
            subst e8
            conv => whnf
            refine EqK.gen (EA_ok _) (xs := Vd.cells ⟨wantS fd, 0, c2, fe⟩) (ys := Vd.cells ⟨wantS fd, 0, c2, fe⟩) rfl (by kernel_rfl) rfl rfl (vd_selfA _ _) ?_
            conv => whnf
            refine Hp.ld H 11 rfl rfl ?_
            conv => whnf
            refine CallK.mono (pcounts_call _ g s bR bV bM _ _ _ _ (pol_ob (i := 0) H rfl)) ?_
            rintro _ h21 ⟨k5, rfl⟩
            refine ⟨k5, ?_⟩
            replace H := H.and k5
            clear k5
            conv => whnf
            refine EqK.gen (EA_ok _) rfl (by kernel_rfl) rfl rfl (cnt_self (k0 + 1) k1 k2 k3) ?_
            conv => whnf
            repeat ((first | refine iteT (by omega) ?_ | refine iteF (by omega) ?_ | refine iteET (by omega) ?_ | refine iteEF (by omega) ?_ | refine iteNT (by omega) ?_ | refine iteNF (by omega) ?_ | refine WrapK.i64 (by omega) (by omega) ?_ | refine Drawn.mk (by kernel_rfl) ?_); conv => whnf)
            have hK0 : 0 ≤ (k0 + 1) ∧ (k0 + 1) ≤ ((i + 1 : Nat) : Int) := by omega
            have hK1 : 0 ≤ k1 ∧ k1 ≤ ((i + 1 : Nat) : Int) := by omega
            have hK2 : 0 ≤ k2 ∧ k2 ≤ ((i + 1 : Nat) : Int) := by omega
            have hK3 : 0 ≤ k3 ∧ k3 ≤ ((i + 1 : Nat) : Int) := by omega
            have hN : 0 ≤ now + d ∧ now + d ≤ 1099511627776 * ((i + 1 : Nat) : Int) := by omega
            have hi3 : i + 1 ≤ fs.length := by omega
            have hme : fs.length - (i + 1) < fs.length - i := by omega
            have mz2 : MZ w 3 (i + 1) M X Y Z := mz.more
            have H2 : Hp h0 h21 (pjB g g2 g6 g7 bR bV bM w (wbox w A0 A1 A2 D0 D1 D2 a0c a1c a2c d0c d1c d2c) s (othF 4) (k0 + 1) k1 k2 k3 R V M B X 3 Z Y ++ (Res.mp pI Rul.enc bT R :: zC g21 (k0 + 1) k1 k2 k3 :: [])) := (((H.drop 12).drop 12).drop 12).drop 12
            exact ⟨(i + 1, now + d, ((k0 + 1), k1, k2, k3), (X, Y, Z)), ⟨(by first | rfl | (show Value.int .i64 _ = _; congr 1; omega) | (show Value.int .i64 _ = _; rw [wrap64_id (by omega) (by omega)]; first | rfl | (congr 1; omega))), rfl, trivial⟩, (by repeat (first | exact trivial | refine ⟨rfl, ?_⟩)), ⟨hi3, hN, hK0, hK1, hK2, hK3, mz2, H2⟩, hme⟩
          subst hmt
          have hX := mz.all m hm3 hcf
          obtain ⟨z, hz, ez⟩ := hX
          have hp : ptq Z m = ptrV z.q := by rw [← ez]; exact ptq_mem mz.dn hz
          first | (refine iteT (show ((m : Nat) : Int) ≥ 0 by omega) ?_; conv => whnf) | (conv => whnf)
          refine Drawn.mk (by kernel_rfl) ?_
          conv => whnf
          refine Hp.ld H 15 rfl rfl ?_
          conv => whnf
          refine cnd_intro (by simp only [Bool.and_eq_true, decide_eq_true_eq]; omega) ?_
          conv => whnf
          refine Hp.ldAt H 8 rfl rfl rfl (o := m) (m_off m) (v := ptrV z.q) (ptq_at hm3 hp) ?_
          conv => whnf
          refine Hp.ld H 12 rfl rfl ?_
          conv => whnf
          have hin : (z.q, z.ms) ∈ Y := by rw [mz.hY]; exact List.mem_map_of_mem hz
          have hX : ∃ T, _ := (show (Res.mss Y).at_ _ from H.get 9 rfl) (z.q, z.ms) hin
          obtain ⟨T, hT⟩ := hX
          refine CallK.mono (mark_call z.ms z.q T fb (now + d) _ (mz.yes z hz).2.2.2.1 (by omega) hT) ?_
          rintro v h22 ⟨ev, kM, hM⟩
          have HH : Hp h0 h22 (pjB g g2 g6 g7 bR bV bM w (wbox w A0 A1 A2 D0 D1 D2 a0c a1c a2c d0c d1c d2c) s (othF 4) k0 k1 k2 k3 R V M B X 3 Z (Y.map fun y => if y.1 = z.q then (z.q, (z.ms.mark fb (now + d)).1) else y) ++ (Res.mp pI Rul.enc bT R :: zC g21 k0 k1 k2 k3 :: zF g23 fl fd fb fc2 fe :: zH g24 ⟨fl, fd, fb, fc2, fe⟩ :: zV g25 ⟨wantS fd, 0, c2, fe⟩ :: zR g26 rm (n : Nat) (m : Nat) :: [])) := Hp.mss_set H 9 rfl hin kM hM
          repeat clear H; clear kM hM
          have H := HH
          clear HH
          have hX : ∃ q, (z.ms.mark fb (now + d)).2 = q := ⟨_, rfl⟩
          obtain ⟨q, hq⟩ := hX
          rw [hq] at ev
          subst ev
          conv => whnf
          by_cases q2 : q = 2
          · refine iteET q2 ?_
            conv => whnf
            refine Hp.st H 14 rfl rfl rfl rfl rfl ?_
            clear H
            intro h H
            have HH : Hp h0 _ (pjB g g2 g6 g7 bR bV bM w (wbox w A0 A1 A2 D0 D1 D2 a0c a1c a2c d0c d1c d2c) s (othF 4) k0 k1 k2 k3 R V M B X 3 Z (Y.map fun y => if y.1 = z.q then (z.q, (z.ms.mark fb (now + d)).1) else y) ++ (Res.mp pI Rul.enc bT R :: zC g21 k0 k1 k2 k3 :: zF g23 fl fd fb fc2 fe :: zH g24 ⟨fl, fd, fb, fc2, fe⟩ :: zV g25 ⟨wantS fd, 3, c2, fe⟩ :: zR g26 rm (n : Nat) (m : Nat) :: [])) := H
            repeat clear H
            have H := HH
            clear HH
            conv => whnf
            refine Hp.ld H 14 rfl rfl ?_
            conv => whnf
            refine Hp.ld H 11 rfl rfl ?_
            conv => whnf
            refine WrapK.i64 (by omega) (by omega) ?_
            conv => whnf
            refine Hp.st H 11 rfl rfl rfl rfl rfl ?_
            clear H
            intro h H
            have HH : Hp h0 _ (pjB g g2 g6 g7 bR bV bM w (wbox w A0 A1 A2 D0 D1 D2 a0c a1c a2c d0c d1c d2c) s (othF 4) k0 k1 k2 k3 R V M B X 3 Z (Y.map fun y => if y.1 = z.q then (z.q, (z.ms.mark fb (now + d)).1) else y) ++ (Res.mp pI Rul.enc bT R :: zC g21 k0 k1 k2 (k3 + 1) :: zF g23 fl fd fb fc2 fe :: zH g24 ⟨fl, fd, fb, fc2, fe⟩ :: zV g25 ⟨wantS fd, 3, c2, fe⟩ :: zR g26 rm (n : Nat) (m : Nat) :: [])) := H
            repeat clear H
            have H := HH
            clear HH
            conv => whnf
            refine Drawn.keys [0, 1, 2, 3, 4, 5, 6] [(7, []), (8, [])] [9, 10, 11, 13, 12, 14, 15] (by kernel_rfl) ?_
            conv => whnf
            refine Hp.ld H 13 rfl rfl ?_
            conv => whnf
            refine Hp.ld H 12 rfl rfl ?_
            conv => whnf
            refine Hp.ld H 12 rfl rfl ?_
            conv => whnf
            refine ⟨fun D val h => ∃ x7 x8, val = vv x7 x8 ∧ (D 7 = true → x7 = .agg (Vd.cells ⟨wantS fd, 3, c2, fe⟩).toArray) ∧ (D 8 = true → x8 = .agg (Vd.cells ⟨wantS fd, 3, c2, fe⟩).toArray) ∧ (D 7 = false → Hp h0 h (pjB g g2 g6 g7 bR bV bM w (wbox w A0 A1 A2 D0 D1 D2 a0c a1c a2c d0c d1c d2c) s (othF 4) k0 k1 k2 k3 R V M B X 3 Z (Y.map fun y => if y.1 = z.q then (z.q, (z.ms.mark fb (now + d)).1) else y) ++ (Res.mp pI Rul.enc bT R :: zC g21 k0 k1 k2 (k3 + 1) :: zF g23 fl fd fb fc2 fe :: zH g24 ⟨fl, fd, fb, fc2, fe⟩ :: zV g25 ⟨wantS fd, 3, c2, fe⟩ :: zR g26 rm (n : Nat) (m : Nat) :: []))) ∧ (D 7 = true → Hp h0 h (pjB g g2 g6 g7 bR bV bM w (wbox w A0 A1 A2 D0 D1 D2 a0c a1c a2c d0c d1c d2c) s (othF 4) k0 k1 k2 (k3 + 1) R V M B (X.map fun y => if y.1 = z.b then (z.b, (z.ms.mark fb (now + d)).1) else y) 3 Z (Y.map fun y => if y.1 = z.q then (z.q, (z.ms.mark fb (now + d)).1) else y) ++ (Res.mp pI Rul.enc bT R :: zC g21 k0 k1 k2 (k3 + 1) :: zF g23 fl fd fb fc2 fe :: zH g24 ⟨fl, fd, fb, fc2, fe⟩ :: zV g25 ⟨wantS fd, 3, c2, fe⟩ :: zR g26 rm (n : Nat) (m : Nat) :: []))), vv (.bool false) (.bool false), ⟨_, _, rfl, fun h => absurd (show false = true from h) (by decide), fun h => absurd (show false = true from h) (by decide), fun _ => H, fun h => absurd (show false = true from h) (by decide)⟩, And.intro ?_ (And.intro ?_ trivial), ?_⟩
            · clear H
              rintro D val h ⟨x7, x8, rfl, v7, v8, hB, hA⟩
              have H := hB rfl
              clear hA hB
              conv => whnf
              refine CallK.mono (judge_call H (fH ⟨fl, fd, fb, fc2, fe⟩) 1 fb fc2 (now + d) (by rw [othF_length]; decide) (gr.ok gs mz) (by omega) (by omega) (by omega) (by omega) (by omega)) ?_
              rintro _ h2 ⟨e, d1, X1, hj, rfl, P⟩
              rw [fH_find] at hj
              have hj2 := jd_meter mz hj hr hnl hga hz (show ((m : Nat) : Int) = z.n by omega)
              rw [hq] at hj2
              obtain ⟨rfl, hj3⟩ := hj2
              rcases hj3 with ⟨_, rfl, rfl⟩ | ⟨h, _⟩
              rotate_left
              · exact absurd q2 h
              exact ⟨_, x8, vv_7 _ _ _, fun _ => rfl, v8, fun h => absurd (show true = false from h) (by decide), fun _ => P⟩
            · clear H
              rintro D val h ⟨x7, x8, rfl, v7, v8, hB, hA⟩
              have hX : D 7 = true ∨ D 7 = false := by cases D 7 <;> simp
              rcases hX with hD | hD
              · have H := hA hD
                conv => whnf
                refine Hp.ld H 14 rfl rfl ?_
                exact ⟨x7, _, vv_8 _ _ _, v7, fun _ => rfl, hB, hA⟩
              · have H := hB hD
                conv => whnf
                refine Hp.ld H 14 rfl rfl ?_
                exact ⟨x7, _, vv_8 _ _ _, v7, fun _ => rfl, hB, hA⟩
            clear H
            rintro val h20 ⟨x7, x8, rfl, v7, v8, _, hA⟩
            have H := hA rfl
            have e7 := v7 rfl
            have e8 := v8 rfl
            clear hA v7 v8
            subst e7
            subst e8
            conv => whnf
            refine EqK.gen (EA_ok _) (xs := Vd.cells ⟨wantS fd, 3, c2, fe⟩) (ys := Vd.cells ⟨wantS fd, 3, c2, fe⟩) rfl (by kernel_rfl) rfl rfl (vd_selfA _ _) ?_
            conv => whnf
            refine Hp.ld H 11 rfl rfl ?_
            conv => whnf
            refine CallK.mono (pcounts_call _ g s bR bV bM _ _ _ _ (pol_ob (i := 0) H rfl)) ?_
            rintro _ h21 ⟨k5, rfl⟩
            refine ⟨k5, ?_⟩
            replace H := H.and k5
            clear k5
            conv => whnf
            refine EqK.gen (EA_ok _) rfl (by kernel_rfl) rfl rfl (cnt_self k0 k1 k2 (k3 + 1)) ?_
            conv => whnf
            repeat ((first | refine iteT (by omega) ?_ | refine iteF (by omega) ?_ | refine iteET (by omega) ?_ | refine iteEF (by omega) ?_ | refine iteNT (by omega) ?_ | refine iteNF (by omega) ?_ | refine WrapK.i64 (by omega) (by omega) ?_ | refine Drawn.mk (by kernel_rfl) ?_); conv => whnf)
            have hK0 : 0 ≤ k0 ∧ k0 ≤ ((i + 1 : Nat) : Int) := by omega
            have hK1 : 0 ≤ k1 ∧ k1 ≤ ((i + 1 : Nat) : Int) := by omega
            have hK2 : 0 ≤ k2 ∧ k2 ≤ ((i + 1 : Nat) : Int) := by omega
            have hK3 : 0 ≤ (k3 + 1) ∧ (k3 + 1) ≤ ((i + 1 : Nat) : Int) := by omega
            have hN : 0 ≤ now + d ∧ now + d ≤ 1099511627776 * ((i + 1 : Nat) : Int) := by omega
            have hi3 : i + 1 ≤ fs.length := by omega
            have hme : fs.length - (i + 1) < fs.length - i := by omega
            have mz2 : MZ w 3 (i + 1) M (X.map fun y => if y.1 = z.b then (z.b, (z.ms.mark fb (now + d)).1) else y) (Y.map fun y => if y.1 = z.q then (z.q, (z.ms.mark fb (now + d)).1) else y) (askZ Z z (z.ms.mark fb (now + d)).1) := mz.ask (by omega) hz fb (now + d)
            have H2 : Hp h0 h21 (pjB g g2 g6 g7 bR bV bM w (wbox w A0 A1 A2 D0 D1 D2 a0c a1c a2c d0c d1c d2c) s (othF 4) k0 k1 k2 (k3 + 1) R V M B (X.map fun y => if y.1 = z.b then (z.b, (z.ms.mark fb (now + d)).1) else y) 3 Z (Y.map fun y => if y.1 = z.q then (z.q, (z.ms.mark fb (now + d)).1) else y) ++ (Res.mp pI Rul.enc bT R :: zC g21 k0 k1 k2 (k3 + 1) :: [])) := (((H.drop 12).drop 12).drop 12).drop 12
            have H3 : Hp h0 h21 (pjB g g2 g6 g7 bR bV bM w (wbox w A0 A1 A2 D0 D1 D2 a0c a1c a2c d0c d1c d2c) s (othF 4) k0 k1 k2 (k3 + 1) R V M B (X.map fun y => if y.1 = z.b then (z.b, (z.ms.mark fb (now + d)).1) else y) 3 (askZ Z z (z.ms.mark fb (now + d)).1) (Y.map fun y => if y.1 = z.q then (z.q, (z.ms.mark fb (now + d)).1) else y) ++ (Res.mp pI Rul.enc bT R :: zC g21 k0 k1 k2 (k3 + 1) :: [])) := Hp.eqs H2 (by unfold pjB; rw [ptq_ask, ptq_ask, ptq_ask])
            exact ⟨(i + 1, now + d, (k0, k1, k2, (k3 + 1)), ((X.map fun y => if y.1 = z.b then (z.b, (z.ms.mark fb (now + d)).1) else y), (Y.map fun y => if y.1 = z.q then (z.q, (z.ms.mark fb (now + d)).1) else y), (askZ Z z (z.ms.mark fb (now + d)).1))), ⟨(by first | rfl | (show Value.int .i64 _ = _; congr 1; omega) | (show Value.int .i64 _ = _; rw [wrap64_id (by omega) (by omega)]; first | rfl | (congr 1; omega))), rfl, trivial⟩, (by repeat (first | exact trivial | refine ⟨rfl, ?_⟩)), ⟨hi3, hN, hK0, hK1, hK2, hK3, mz2, H3⟩, hme⟩
          refine iteEF q2 ?_
          conv => whnf
          by_cases q1 : q = 1
          · refine iteET q1 ?_
            conv => whnf
            refine Hp.st H 14 rfl rfl rfl rfl rfl ?_
            clear H
            intro h H
            have HH : Hp h0 _ (pjB g g2 g6 g7 bR bV bM w (wbox w A0 A1 A2 D0 D1 D2 a0c a1c a2c d0c d1c d2c) s (othF 4) k0 k1 k2 k3 R V M B X 3 Z (Y.map fun y => if y.1 = z.q then (z.q, (z.ms.mark fb (now + d)).1) else y) ++ (Res.mp pI Rul.enc bT R :: zC g21 k0 k1 k2 k3 :: zF g23 fl fd fb fc2 fe :: zH g24 ⟨fl, fd, fb, fc2, fe⟩ :: zV g25 ⟨wantS fd, 0, c2, true⟩ :: zR g26 rm (n : Nat) (m : Nat) :: [])) := H
            repeat clear H
            have H := HH
            clear HH
            conv => whnf
            refine Hp.ld H 14 rfl rfl ?_
            conv => whnf
            refine Hp.ld H 11 rfl rfl ?_
            conv => whnf
            refine WrapK.i64 (by omega) (by omega) ?_
            conv => whnf
            refine Hp.st H 11 rfl rfl rfl rfl rfl ?_
            clear H
            intro h H
            have HH : Hp h0 _ (pjB g g2 g6 g7 bR bV bM w (wbox w A0 A1 A2 D0 D1 D2 a0c a1c a2c d0c d1c d2c) s (othF 4) k0 k1 k2 k3 R V M B X 3 Z (Y.map fun y => if y.1 = z.q then (z.q, (z.ms.mark fb (now + d)).1) else y) ++ (Res.mp pI Rul.enc bT R :: zC g21 (k0 + 1) k1 k2 k3 :: zF g23 fl fd fb fc2 fe :: zH g24 ⟨fl, fd, fb, fc2, fe⟩ :: zV g25 ⟨wantS fd, 0, c2, true⟩ :: zR g26 rm (n : Nat) (m : Nat) :: [])) := H
            repeat clear H
            have H := HH
            clear HH
            conv => whnf
            refine Drawn.keys [0, 1, 2, 3, 4, 5, 6] [(7, []), (8, [])] [9, 10, 11, 13, 12, 14, 15] (by kernel_rfl) ?_
            conv => whnf
            refine Hp.ld H 13 rfl rfl ?_
            conv => whnf
            refine Hp.ld H 12 rfl rfl ?_
            conv => whnf
            refine Hp.ld H 12 rfl rfl ?_
            conv => whnf
            refine ⟨fun D val h => ∃ x7 x8, val = vv x7 x8 ∧ (D 7 = true → x7 = .agg (Vd.cells ⟨wantS fd, 0, c2, true⟩).toArray) ∧ (D 8 = true → x8 = .agg (Vd.cells ⟨wantS fd, 0, c2, true⟩).toArray) ∧ (D 7 = false → Hp h0 h (pjB g g2 g6 g7 bR bV bM w (wbox w A0 A1 A2 D0 D1 D2 a0c a1c a2c d0c d1c d2c) s (othF 4) k0 k1 k2 k3 R V M B X 3 Z (Y.map fun y => if y.1 = z.q then (z.q, (z.ms.mark fb (now + d)).1) else y) ++ (Res.mp pI Rul.enc bT R :: zC g21 (k0 + 1) k1 k2 k3 :: zF g23 fl fd fb fc2 fe :: zH g24 ⟨fl, fd, fb, fc2, fe⟩ :: zV g25 ⟨wantS fd, 0, c2, true⟩ :: zR g26 rm (n : Nat) (m : Nat) :: []))) ∧ (D 7 = true → Hp h0 h (pjB g g2 g6 g7 bR bV bM w (wbox w A0 A1 A2 D0 D1 D2 a0c a1c a2c d0c d1c d2c) s (othF 4) (k0 + 1) k1 k2 k3 R V M B (X.map fun y => if y.1 = z.b then (z.b, (z.ms.mark fb (now + d)).1) else y) 3 Z (Y.map fun y => if y.1 = z.q then (z.q, (z.ms.mark fb (now + d)).1) else y) ++ (Res.mp pI Rul.enc bT R :: zC g21 (k0 + 1) k1 k2 k3 :: zF g23 fl fd fb fc2 fe :: zH g24 ⟨fl, fd, fb, fc2, fe⟩ :: zV g25 ⟨wantS fd, 0, c2, true⟩ :: zR g26 rm (n : Nat) (m : Nat) :: []))), vv (.bool false) (.bool false), ⟨_, _, rfl, fun h => absurd (show false = true from h) (by decide), fun h => absurd (show false = true from h) (by decide), fun _ => H, fun h => absurd (show false = true from h) (by decide)⟩, And.intro ?_ (And.intro ?_ trivial), ?_⟩
            · clear H
              rintro D val h ⟨x7, x8, rfl, v7, v8, hB, hA⟩
              have H := hB rfl
              clear hA hB
              conv => whnf
              refine CallK.mono (judge_call H (fH ⟨fl, fd, fb, fc2, fe⟩) 1 fb fc2 (now + d) (by rw [othF_length]; decide) (gr.ok gs mz) (by omega) (by omega) (by omega) (by omega) (by omega)) ?_
              rintro _ h2 ⟨e, d1, X1, hj, rfl, P⟩
              rw [fH_find] at hj
              have hj2 := jd_meter mz hj hr hnl hga hz (show ((m : Nat) : Int) = z.n by omega)
              rw [hq] at hj2
              obtain ⟨rfl, hj3⟩ := hj2
              rcases hj3 with ⟨h, _⟩ | ⟨_, rfl, hd1⟩
              · exact absurd h q2
              rw [decide_eq_true q1, Bool.or_true] at hd1
              subst hd1
              exact ⟨_, x8, vv_7 _ _ _, fun _ => rfl, v8, fun h => absurd (show true = false from h) (by decide), fun _ => P⟩
            · clear H
              rintro D val h ⟨x7, x8, rfl, v7, v8, hB, hA⟩
              have hX : D 7 = true ∨ D 7 = false := by cases D 7 <;> simp
              rcases hX with hD | hD
              · have H := hA hD
                conv => whnf
                refine Hp.ld H 14 rfl rfl ?_
                exact ⟨x7, _, vv_8 _ _ _, v7, fun _ => rfl, hB, hA⟩
              · have H := hB hD
                conv => whnf
                refine Hp.ld H 14 rfl rfl ?_
                exact ⟨x7, _, vv_8 _ _ _, v7, fun _ => rfl, hB, hA⟩
            clear H
            rintro val h20 ⟨x7, x8, rfl, v7, v8, _, hA⟩
            have H := hA rfl
            have e7 := v7 rfl
            have e8 := v8 rfl
            clear hA v7 v8
            subst e7
            subst e8
            conv => whnf
            refine EqK.gen (EA_ok _) (xs := Vd.cells ⟨wantS fd, 0, c2, true⟩) (ys := Vd.cells ⟨wantS fd, 0, c2, true⟩) rfl (by kernel_rfl) rfl rfl (vd_selfA _ _) ?_
            conv => whnf
            refine Hp.ld H 11 rfl rfl ?_
            conv => whnf
            refine CallK.mono (pcounts_call _ g s bR bV bM _ _ _ _ (pol_ob (i := 0) H rfl)) ?_
            rintro _ h21 ⟨k5, rfl⟩
            refine ⟨k5, ?_⟩
            replace H := H.and k5
            clear k5
            conv => whnf
            refine EqK.gen (EA_ok _) rfl (by kernel_rfl) rfl rfl (cnt_self (k0 + 1) k1 k2 k3) ?_
            conv => whnf
            repeat ((first | refine iteT (by omega) ?_ | refine iteF (by omega) ?_ | refine iteET (by omega) ?_ | refine iteEF (by omega) ?_ | refine iteNT (by omega) ?_ | refine iteNF (by omega) ?_ | refine WrapK.i64 (by omega) (by omega) ?_ | refine Drawn.mk (by kernel_rfl) ?_); conv => whnf)
            have hK0 : 0 ≤ (k0 + 1) ∧ (k0 + 1) ≤ ((i + 1 : Nat) : Int) := by omega
            have hK1 : 0 ≤ k1 ∧ k1 ≤ ((i + 1 : Nat) : Int) := by omega
            have hK2 : 0 ≤ k2 ∧ k2 ≤ ((i + 1 : Nat) : Int) := by omega
            have hK3 : 0 ≤ k3 ∧ k3 ≤ ((i + 1 : Nat) : Int) := by omega
            have hN : 0 ≤ now + d ∧ now + d ≤ 1099511627776 * ((i + 1 : Nat) : Int) := by omega
            have hi3 : i + 1 ≤ fs.length := by omega
            have hme : fs.length - (i + 1) < fs.length - i := by omega
            have mz2 : MZ w 3 (i + 1) M (X.map fun y => if y.1 = z.b then (z.b, (z.ms.mark fb (now + d)).1) else y) (Y.map fun y => if y.1 = z.q then (z.q, (z.ms.mark fb (now + d)).1) else y) (askZ Z z (z.ms.mark fb (now + d)).1) := mz.ask (by omega) hz fb (now + d)
            have H2 : Hp h0 h21 (pjB g g2 g6 g7 bR bV bM w (wbox w A0 A1 A2 D0 D1 D2 a0c a1c a2c d0c d1c d2c) s (othF 4) (k0 + 1) k1 k2 k3 R V M B (X.map fun y => if y.1 = z.b then (z.b, (z.ms.mark fb (now + d)).1) else y) 3 Z (Y.map fun y => if y.1 = z.q then (z.q, (z.ms.mark fb (now + d)).1) else y) ++ (Res.mp pI Rul.enc bT R :: zC g21 (k0 + 1) k1 k2 k3 :: [])) := (((H.drop 12).drop 12).drop 12).drop 12
            have H3 : Hp h0 h21 (pjB g g2 g6 g7 bR bV bM w (wbox w A0 A1 A2 D0 D1 D2 a0c a1c a2c d0c d1c d2c) s (othF 4) (k0 + 1) k1 k2 k3 R V M B (X.map fun y => if y.1 = z.b then (z.b, (z.ms.mark fb (now + d)).1) else y) 3 (askZ Z z (z.ms.mark fb (now + d)).1) (Y.map fun y => if y.1 = z.q then (z.q, (z.ms.mark fb (now + d)).1) else y) ++ (Res.mp pI Rul.enc bT R :: zC g21 (k0 + 1) k1 k2 k3 :: [])) := Hp.eqs H2 (by unfold pjB; rw [ptq_ask, ptq_ask, ptq_ask])
            exact ⟨(i + 1, now + d, ((k0 + 1), k1, k2, k3), ((X.map fun y => if y.1 = z.b then (z.b, (z.ms.mark fb (now + d)).1) else y), (Y.map fun y => if y.1 = z.q then (z.q, (z.ms.mark fb (now + d)).1) else y), (askZ Z z (z.ms.mark fb (now + d)).1))), ⟨(by first | rfl | (show Value.int .i64 _ = _; congr 1; omega) | (show Value.int .i64 _ = _; rw [wrap64_id (by omega) (by omega)]; first | rfl | (congr 1; omega))), rfl, trivial⟩, (by repeat (first | exact trivial | refine ⟨rfl, ?_⟩)), ⟨hi3, hN, hK0, hK1, hK2, hK3, mz2, H3⟩, hme⟩
          refine iteEF q1 ?_
          conv => whnf
          refine Hp.ld H 14 rfl rfl ?_
          conv => whnf
          refine Hp.ld H 11 rfl rfl ?_
          conv => whnf
          refine WrapK.i64 (by omega) (by omega) ?_
          conv => whnf
          refine Hp.st H 11 rfl rfl rfl rfl rfl ?_
          clear H
          intro h H
          have HH : Hp h0 _ (pjB g g2 g6 g7 bR bV bM w (wbox w A0 A1 A2 D0 D1 D2 a0c a1c a2c d0c d1c d2c) s (othF 4) k0 k1 k2 k3 R V M B X 3 Z (Y.map fun y => if y.1 = z.q then (z.q, (z.ms.mark fb (now + d)).1) else y) ++ (Res.mp pI Rul.enc bT R :: zC g21 (k0 + 1) k1 k2 k3 :: zF g23 fl fd fb fc2 fe :: zH g24 ⟨fl, fd, fb, fc2, fe⟩ :: zV g25 ⟨wantS fd, 0, c2, fe⟩ :: zR g26 rm (n : Nat) (m : Nat) :: [])) := H
          repeat clear H
          have H := HH
          clear HH
          conv => whnf
          refine Drawn.keys [0, 1, 2, 3, 4, 5, 6] [(7, []), (8, [])] [9, 10, 11, 13, 12, 14, 15] (by kernel_rfl) ?_
          conv => whnf
          refine Hp.ld H 13 rfl rfl ?_
          conv => whnf
          refine Hp.ld H 12 rfl rfl ?_
          conv => whnf
          refine Hp.ld H 12 rfl rfl ?_
          conv => whnf
          refine ⟨fun D val h => ∃ x7 x8, val = vv x7 x8 ∧ (D 7 = true → x7 = .agg (Vd.cells ⟨wantS fd, 0, c2, fe⟩).toArray) ∧ (D 8 = true → x8 = .agg (Vd.cells ⟨wantS fd, 0, c2, fe⟩).toArray) ∧ (D 7 = false → Hp h0 h (pjB g g2 g6 g7 bR bV bM w (wbox w A0 A1 A2 D0 D1 D2 a0c a1c a2c d0c d1c d2c) s (othF 4) k0 k1 k2 k3 R V M B X 3 Z (Y.map fun y => if y.1 = z.q then (z.q, (z.ms.mark fb (now + d)).1) else y) ++ (Res.mp pI Rul.enc bT R :: zC g21 (k0 + 1) k1 k2 k3 :: zF g23 fl fd fb fc2 fe :: zH g24 ⟨fl, fd, fb, fc2, fe⟩ :: zV g25 ⟨wantS fd, 0, c2, fe⟩ :: zR g26 rm (n : Nat) (m : Nat) :: []))) ∧ (D 7 = true → Hp h0 h (pjB g g2 g6 g7 bR bV bM w (wbox w A0 A1 A2 D0 D1 D2 a0c a1c a2c d0c d1c d2c) s (othF 4) (k0 + 1) k1 k2 k3 R V M B (X.map fun y => if y.1 = z.b then (z.b, (z.ms.mark fb (now + d)).1) else y) 3 Z (Y.map fun y => if y.1 = z.q then (z.q, (z.ms.mark fb (now + d)).1) else y) ++ (Res.mp pI Rul.enc bT R :: zC g21 (k0 + 1) k1 k2 k3 :: zF g23 fl fd fb fc2 fe :: zH g24 ⟨fl, fd, fb, fc2, fe⟩ :: zV g25 ⟨wantS fd, 0, c2, fe⟩ :: zR g26 rm (n : Nat) (m : Nat) :: []))), vv (.bool false) (.bool false), ⟨_, _, rfl, fun h => absurd (show false = true from h) (by decide), fun h => absurd (show false = true from h) (by decide), fun _ => H, fun h => absurd (show false = true from h) (by decide)⟩, And.intro ?_ (And.intro ?_ trivial), ?_⟩
          · clear H
            rintro D val h ⟨x7, x8, rfl, v7, v8, hB, hA⟩
            have H := hB rfl
            clear hA hB
            conv => whnf
            refine CallK.mono (judge_call H (fH ⟨fl, fd, fb, fc2, fe⟩) 1 fb fc2 (now + d) (by rw [othF_length]; decide) (gr.ok gs mz) (by omega) (by omega) (by omega) (by omega) (by omega)) ?_
            rintro _ h2 ⟨e, d1, X1, hj, rfl, P⟩
            rw [fH_find] at hj
            have hj2 := jd_meter mz hj hr hnl hga hz (show ((m : Nat) : Int) = z.n by omega)
            rw [hq] at hj2
            obtain ⟨rfl, hj3⟩ := hj2
            rcases hj3 with ⟨h, _⟩ | ⟨_, rfl, hd1⟩
            · exact absurd h q2
            rw [decide_eq_false q1, Bool.or_false] at hd1
            subst hd1
            exact ⟨_, x8, vv_7 _ _ _, fun _ => rfl, v8, fun h => absurd (show true = false from h) (by decide), fun _ => P⟩
          · clear H
            rintro D val h ⟨x7, x8, rfl, v7, v8, hB, hA⟩
            have hX : D 7 = true ∨ D 7 = false := by cases D 7 <;> simp
            rcases hX with hD | hD
            · have H := hA hD
              conv => whnf
              refine Hp.ld H 14 rfl rfl ?_
              exact ⟨x7, _, vv_8 _ _ _, v7, fun _ => rfl, hB, hA⟩
            · have H := hB hD
              conv => whnf
              refine Hp.ld H 14 rfl rfl ?_
              exact ⟨x7, _, vv_8 _ _ _, v7, fun _ => rfl, hB, hA⟩
          clear H
          rintro val h20 ⟨x7, x8, rfl, v7, v8, _, hA⟩
          have H := hA rfl
          have e7 := v7 rfl
          have e8 := v8 rfl
          clear hA v7 v8
          subst e7
          subst e8
          conv => whnf
          refine EqK.gen (EA_ok _) (xs := Vd.cells ⟨wantS fd, 0, c2, fe⟩) (ys := Vd.cells ⟨wantS fd, 0, c2, fe⟩) rfl (by kernel_rfl) rfl rfl (vd_selfA _ _) ?_
          conv => whnf
          refine Hp.ld H 11 rfl rfl ?_
          conv => whnf
          refine CallK.mono (pcounts_call _ g s bR bV bM _ _ _ _ (pol_ob (i := 0) H rfl)) ?_
          rintro _ h21 ⟨k5, rfl⟩
          refine ⟨k5, ?_⟩
          replace H := H.and k5
          clear k5
          conv => whnf
          refine EqK.gen (EA_ok _) rfl (by kernel_rfl) rfl rfl (cnt_self (k0 + 1) k1 k2 k3) ?_
          conv => whnf
          repeat ((first | refine iteT (by omega) ?_ | refine iteF (by omega) ?_ | refine iteET (by omega) ?_ | refine iteEF (by omega) ?_ | refine iteNT (by omega) ?_ | refine iteNF (by omega) ?_ | refine WrapK.i64 (by omega) (by omega) ?_ | refine Drawn.mk (by kernel_rfl) ?_); conv => whnf)
          have hK0 : 0 ≤ (k0 + 1) ∧ (k0 + 1) ≤ ((i + 1 : Nat) : Int) := by omega
          have hK1 : 0 ≤ k1 ∧ k1 ≤ ((i + 1 : Nat) : Int) := by omega
          have hK2 : 0 ≤ k2 ∧ k2 ≤ ((i + 1 : Nat) : Int) := by omega
          have hK3 : 0 ≤ k3 ∧ k3 ≤ ((i + 1 : Nat) : Int) := by omega
          have hN : 0 ≤ now + d ∧ now + d ≤ 1099511627776 * ((i + 1 : Nat) : Int) := by omega
          have hi3 : i + 1 ≤ fs.length := by omega
          have hme : fs.length - (i + 1) < fs.length - i := by omega
          have mz2 : MZ w 3 (i + 1) M (X.map fun y => if y.1 = z.b then (z.b, (z.ms.mark fb (now + d)).1) else y) (Y.map fun y => if y.1 = z.q then (z.q, (z.ms.mark fb (now + d)).1) else y) (askZ Z z (z.ms.mark fb (now + d)).1) := mz.ask (by omega) hz fb (now + d)
          have H2 : Hp h0 h21 (pjB g g2 g6 g7 bR bV bM w (wbox w A0 A1 A2 D0 D1 D2 a0c a1c a2c d0c d1c d2c) s (othF 4) (k0 + 1) k1 k2 k3 R V M B (X.map fun y => if y.1 = z.b then (z.b, (z.ms.mark fb (now + d)).1) else y) 3 Z (Y.map fun y => if y.1 = z.q then (z.q, (z.ms.mark fb (now + d)).1) else y) ++ (Res.mp pI Rul.enc bT R :: zC g21 (k0 + 1) k1 k2 k3 :: [])) := (((H.drop 12).drop 12).drop 12).drop 12
          have H3 : Hp h0 h21 (pjB g g2 g6 g7 bR bV bM w (wbox w A0 A1 A2 D0 D1 D2 a0c a1c a2c d0c d1c d2c) s (othF 4) (k0 + 1) k1 k2 k3 R V M B (X.map fun y => if y.1 = z.b then (z.b, (z.ms.mark fb (now + d)).1) else y) 3 (askZ Z z (z.ms.mark fb (now + d)).1) (Y.map fun y => if y.1 = z.q then (z.q, (z.ms.mark fb (now + d)).1) else y) ++ (Res.mp pI Rul.enc bT R :: zC g21 (k0 + 1) k1 k2 k3 :: [])) := Hp.eqs H2 (by unfold pjB; rw [ptq_ask, ptq_ask, ptq_ask])
          exact ⟨(i + 1, now + d, ((k0 + 1), k1, k2, k3), ((X.map fun y => if y.1 = z.b then (z.b, (z.ms.mark fb (now + d)).1) else y), (Y.map fun y => if y.1 = z.q then (z.q, (z.ms.mark fb (now + d)).1) else y), (askZ Z z (z.ms.mark fb (now + d)).1))), ⟨(by first | rfl | (show Value.int .i64 _ = _; congr 1; omega) | (show Value.int .i64 _ = _; rw [wrap64_id (by omega) (by omega)]; first | rfl | (congr 1; omega))), rfl, trivial⟩, (by repeat (first | exact trivial | refine ⟨rfl, ?_⟩)), ⟨hi3, hN, hK0, hK1, hK2, hK3, mz2, H3⟩, hme⟩

end Go.Proofs.Ytloghahkelogbaa
