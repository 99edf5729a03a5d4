import Derived.Test.YtloghahkelogbaaPG4
import Derived.Test.YtloghahkelogbaaPoliceOthers
namespace Go.Proofs.Ytloghahkelogbaa
open Go.Vc
set_option maxRecDepth 10000
set_option maxHeartbeats 8000000

/-! ### police: what comes of a frame (plain) -/

theorem oth_add3 : addF (oF 3) (othF 3) = (0, othF 4) := by
  unfold addF
  rw [if_neg (by decide +kernel), if_neg (by simp [Flt.same, othF, oF, List.range_succ]), if_neg (by decide +kernel)]
  rfl

theorem oth_add {i : Nat} (h : i < 4) : addF (oF i) (othF i) = (0, othF (i + 1)) := by
  rcases (by omega : i = 0 ∨ i = 1 ∨ i = 2 ∨ i = 3) with rfl | rfl | rfl | rfl
  · exact oth_add0
  · exact oth_add1
  · exact oth_add2
  · exact oth_add3

theorem othF_length (i : Nat) : (othF i).length = i := by simp [othF]

def fH (f : Frm) : Hdr := ⟨⟨2, f.dst, 0, 0, 0, 0⟩, ⟨0, 0, 0, 0, 0, 0⟩, false, 0, f.dei, 0, 0, false⟩
def wantS (d : UInt8) : Int := if d.toNat < 4 then (d.toNat : Int) else -1

theorem fH_find (f : Frm) : findF (fH f) 1 (othF 4) = wantS f.dst := by
  have e : othF 4 = [oF 0, oF 1, oF 2, oF 3] := rfl
  rw [e, pfindF_cons, pfindF_cons, pfindF_cons, pfindF_cons, oF_tells, oF_tells, oF_tells, oF_tells]
  simp only [decide_eq_true_eq]
  have h0 : findF (fH f) 1 [] = -1 := rfl
  rw [h0]
  obtain ⟨_, a1, _, _, _⟩ := f
  simp only [fH, Mac6.mk.injEq, wantS, oF, true_and, and_true]
  by_cases c0 : a1 = UInt8.ofNat 0
  · subst c0; rfl
  rw [if_neg c0]
  by_cases c1 : a1 = UInt8.ofNat 1
  · subst c1; rfl
  rw [if_neg c1]
  by_cases c2 : a1 = UInt8.ofNat 2
  · subst c2; rfl
  rw [if_neg c2]
  by_cases c3 : a1 = UInt8.ofNat 3
  · subst c3; rfl
  rw [if_neg c3, if_neg]
  intro h
  have h3 : a1.toNat = 0 ∨ a1.toNat = 1 ∨ a1.toNat = 2 ∨ a1.toNat = 3 := by omega
  rcases h3 with h3 | h3 | h3 | h3
  · exact c0 (UInt8.toNat_inj.1 h3)
  · exact c1 (UInt8.toNat_inj.1 h3)
  · exact c2 (UInt8.toNat_inj.1 h3)
  · exact c3 (UInt8.toNat_inj.1 h3)

def okG (w : Wd) (k : Int) : Prop := k < 0 ∨ ∃ n : Nat, n < 3 ∧ k = n ∧ goodB w n = true
def okM (w : Wd) (k : Int) : Prop := k < 0 ∨ ∃ n : Nat, n < 3 ∧ k = n ∧ cfB w n = true

def GR (w : Wd) (R : RM) : Prop := ∀ k r, lk R k = some r → okG w r.gate ∧ okM w r.meter

theorem GR.start (w : Wd) : GR w [] := fun k r h => by cases h
theorem GR.step {w : Wd} {R : RM} (x : GR w R) {n : Int} {r : Rul} (hg : okG w r.gate) (hm : okM w r.meter) : GR w (mput n r R) := by
  intro k r' h
  rw [lk_mput] at h
  split at h
  · injection h with h
    subst h
    exact ⟨hg, hm⟩
  · exact x k r' h

section
variable {w : Wd} {V : VM} {B : List Vlv} {M : MM} {X Y : List (Nat × MS)} {Z : List Zm} {c : Nat}

theorem GR.ok {R : RM} (x : GR w R) (g : GS w 3 V B) (m : MZ w 3 c M X Y Z) {k : Int} : ∀ r, lk R k = some r → RuleOk r V M B X := by
  intro r h
  obtain ⟨h1, h2⟩ := x k r h
  refine ⟨fun hp => ?_, fun hp => ?_⟩
  · rcases h1 with h1 | ⟨n, hn, e, hg⟩
    · omega
    obtain ⟨v, e1, e2, e3, e4⟩ := g.yes n hn hg
    obtain ⟨g1, g2, _⟩ := goodB_true.1 hg
    refine ⟨v, by rw [e]; exact e1, e2, by rw [e3]; exact Gl.check_ok g1, by rw [e3, e4]; exact g2⟩
  · rcases h2 with h2 | ⟨n, hn, e, hg⟩
    · omega
    obtain ⟨z, hz, ez⟩ := m.all n hn hg
    have := m.yes z hz
    refine ⟨z.b, z.ms, by rw [e, ← ez]; exact this.2.2.1, by rw [m.hX]; exact List.mem_map_of_mem hz, this.2.2.2.1⟩

theorem lack_gate (g : GS w 3 V B) {r : Rul} (h0 : 0 ≤ r.gate) (h : ∀ n : Nat, n < 3 → r.gate = n → goodB w n = false) : r.lacks V M := .inl ⟨h0, g.no _ fun n e hn => h n hn e⟩
theorem lack_meter (m : MZ w 3 c M X Y Z) {r : Rul} (h0 : 0 ≤ r.meter) (h : ∀ n : Nat, n < 3 → r.meter = n → cfB w n = false) : r.lacks V M := .inr ⟨h0, m.no _ fun n e hn => h n hn e⟩

theorem no_lack (g : GS w 3 V B) (m : MZ w 3 c M X Y Z) {r : Rul} (hg : okG w r.gate) (hm : okM w r.meter) : ¬ r.lacks V M := by
  rintro (⟨h0, h⟩ | ⟨h0, h⟩)
  · rcases hg with hg | ⟨n, hn, e, hg⟩
    · omega
    obtain ⟨v, e1, _⟩ := g.yes n hn hg
    rw [e, e1] at h
    cases h
  · rcases hm with hm | ⟨n, hn, e, hm⟩
    · omega
    obtain ⟨z, hz, ez⟩ := m.all n hn hm
    have := (m.yes z hz).2.2.1
    rw [e, ← ez, this] at h
    cases h

theorem srule_wide {r : Rul} {n : Int} {R R' : RM} {e : Nat} (h : SetR r n R V M e R') (hc : r.wide n) : e = 1 ∧ R' = R := by
  rcases h with ⟨_, h⟩ | ⟨h, _⟩ | ⟨h, _⟩ | ⟨h, _⟩
  · exact h
  · exact absurd hc h
  · exact absurd hc h
  · exact absurd hc h

theorem srule_lack {r : Rul} {n : Int} {R R' : RM} {e : Nat} (h : SetR r n R V M e R') (hw : ¬ r.wide n) (hc : r.lacks V M) : e = 21 ∧ R' = R := by
  rcases h with ⟨h, _⟩ | ⟨_, _, h⟩ | ⟨_, h, _⟩ | ⟨_, h, _⟩
  · exact absurd h hw
  · exact h
  · exact absurd hc h
  · exact absurd hc h

theorem srule_ok {r : Rul} {n : Int} {R R' : RM} {e : Nat} (h : SetR r n R V M e R') (hw : ¬ r.wide n) (hc : ¬ r.lacks V M) (hl : R.length < 64) : e = 0 ∧ R' = mput n r R := by
  rcases h with ⟨h, _⟩ | ⟨_, h, _⟩ | ⟨_, _, _, h, _⟩ | ⟨_, _, _, h⟩
  · exact absurd h hw
  · exact absurd h hc
  · omega
  · exact h

theorem gate_off {r : Rul} (h : r.gate < 0) (now cls : Int) : gateA r V now cls = (false, cls) := by
  unfold gateA
  rw [if_neg (by omega)]

theorem gate_on (g : GS w 3 V B) {r : Rul} {n : Nat} (hn : n < 3) (e : r.gate = n) (hg : goodB w n = true) (now cls : Int) :
    gateA r V now cls = if opnF (w.gl n) now = true then (false, if clsF (w.gl n) (w.gc n) now ≥ 0 then clsF (w.gl n) (w.gc n) now else cls) else (true, cls) := by
  obtain ⟨v, e1, e2, e3, e4⟩ := g.yes n hn hg
  obtain ⟨g1, g2, _⟩ := goodB_true.1 hg
  unfold gateA
  rw [if_pos (by omega), e, e1]
  dsimp only
  rw [vlv_at v (by rw [e3]; exact Gl.check_ok g1) (by rw [e3, e4]; exact g2) now, e3, e4]

variable {R : RM} {f cls bytes now : Int} {dei : Bool} {e : Nat} {d' : Vd} {X' : List (Nat × MS)}

theorem jd_none (hj : JudgeR R V M X f cls dei bytes now e d' X') (h : lk R f = none) : e = 0 ∧ d' = ⟨f, 0, cls, dei⟩ ∧ X' = X := by
  rcases hj with ⟨_, h1, h2, h3⟩ | ⟨r, _, h1, _⟩
  · exact ⟨h1, h2, h3⟩
  · rw [h] at h1; cases h1

theorem jd_large {r : Rul} (hj : JudgeR R V M X f cls dei bytes now e d' X') (h : lk R f = some r) (hc : r.most > 0 ∧ bytes > r.most) : e = 1 ∧ d' = ⟨f, 1, cls, dei⟩ ∧ X' = X := by
  obtain ⟨d1, ha, rfl⟩ := judgeR_rule hj h
  rcases ha with ⟨_, rfl, rfl, rfl⟩ | ⟨c, _⟩ | ⟨c, _⟩ | ⟨c, _⟩
  · exact ⟨rfl, rfl, rfl⟩
  · exact absurd hc c
  · exact absurd hc c
  · exact absurd hc c

theorem jd_closed {r : Rul} {c' : Int} (hj : JudgeR R V M X f cls dei bytes now e d' X') (h : lk R f = some r) (hc : ¬ (r.most > 0 ∧ bytes > r.most)) (hg : gateA r V now cls = (true, c')) : e = 2 ∧ d' = ⟨f, 2, cls, dei⟩ ∧ X' = X := by
  obtain ⟨d1, ha, rfl⟩ := judgeR_rule hj h
  rcases ha with ⟨c, _⟩ | ⟨_, _, rfl, rfl, rfl⟩ | ⟨_, c, _⟩ | ⟨_, c, _⟩
  · exact absurd c hc
  · exact ⟨rfl, rfl, rfl⟩
  · rw [hg] at c; cases c
  · rw [hg] at c; cases c

theorem jd_pass {r : Rul} {c' : Int} (hj : JudgeR R V M X f cls dei bytes now e d' X') (h : lk R f = some r) (hc : ¬ (r.most > 0 ∧ bytes > r.most)) (hg : gateA r V now cls = (false, c')) (hm : r.meter < 0) : e = 0 ∧ d' = ⟨f, 0, c', dei⟩ ∧ X' = X := by
  obtain ⟨d1, ha, rfl⟩ := judgeR_rule hj h
  rcases ha with ⟨c, _⟩ | ⟨_, c, _⟩ | ⟨_, _, _, rfl, rfl, rfl⟩ | ⟨_, _, c, _⟩
  · exact absurd c hc
  · rw [hg] at c; cases c
  · rw [hg]; exact ⟨rfl, rfl, rfl⟩
  · omega

theorem jd_meter (m : MZ w 3 c M X Y Z) {r : Rul} {c' : Int} {z : Zm} (hj : JudgeR R V M X f cls dei bytes now e d' X') (h : lk R f = some r) (hc : ¬ (r.most > 0 ∧ bytes > r.most)) (hg : gateA r V now cls = (false, c')) (hz : z ∈ Z) (hm : r.meter = z.n) :
    X' = (X.map fun y => if y.1 = z.b then (z.b, (z.ms.mark bytes now).1) else y) ∧
    (((z.ms.mark bytes now).2 = 2 ∧ e = 3 ∧ d' = ⟨f, 3, c', dei⟩) ∨ ((z.ms.mark bytes now).2 ≠ 2 ∧ e = 0 ∧ d' = ⟨f, 0, c', dei || decide ((z.ms.mark bytes now).2 = 1)⟩)) := by
  obtain ⟨d1, ha, rfl⟩ := judgeR_rule hj h
  have hlz := (m.yes z hz).2.2.1
  rcases ha with ⟨c, _⟩ | ⟨_, c, _⟩ | ⟨_, _, c, _⟩ | ⟨_, _, _, b', ms, hb, hx, rfl, hq⟩
  · exact absurd c hc
  · rw [hg] at c; cases c
  · omega
  rw [hm, hlz] at hb
  injection hb with hb
  subst hb
  have e : ms = z.ms := by
    rw [m.hX] at hx
    simp only [List.mem_map, Prod.mk.injEq] at hx
    obtain ⟨y, hy, e1, e2⟩ := hx
    rw [← e2, pair_inj m.db hy hz e1]
  subst e
  rw [hg] at hq
  refine ⟨rfl, ?_⟩
  rcases hq with ⟨q1, rfl, rfl⟩ | ⟨q1, rfl, rfl⟩
  · exact .inl ⟨q1, rfl, rfl⟩
  · exact .inr ⟨q1, rfl, rfl⟩

end

end Go.Proofs.Ytloghahkelogbaa
