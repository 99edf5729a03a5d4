import Derived.Test.YtloghahkelogbaaPolice10
namespace Go.Proofs.Ytloghahkelogbaa
open Go.Vc
set_option maxRecDepth 10000
set_option maxHeartbeats 4000000

/-! ### police: one stream with a gate and a meter (plain) -/

def jM : Mac6 := ⟨2, 1, 0, 0, 0, 0⟩
def jF : Flt := ⟨0, jM, 0, 3⟩
def jL : Gl := ⟨0, 100, 0, [⟨1, 50⟩, ⟨0, 50⟩]⟩
def jC : List Int := [5, -1]
def jR : Rul := ⟨90, 0, 1⟩
def jH : Hdr := ⟨jM, ⟨0, 0, 0, 0, 0, 0⟩, false, 0, false, 0, 0, false⟩
def jM0 : MS := MS.start 0 100 0 100
def jM1 : MS := (jM0.mark 80 10).1
def jM2 : MS := (jM1.mark 80 110).1
def jM3 : MS := (jM2.mark 80 110).1

theorem j_mark0 : (jM0.mark 80 10).2 = 0 := by decide +kernel
theorem j_mark1 : (jM1.mark 80 110).2 = 1 := by decide +kernel
theorem j_mark2 : (jM2.mark 80 110).2 = 2 := by decide +kernel

theorem j_at10 (s s2 : Value) : Vlv.at ⟨jL, s, jC, s2⟩ 10 = (true, 5) := by kernel_rfl
theorem j_at60 (s s2 : Value) : Vlv.at ⟨jL, s, jC, s2⟩ 60 = (false, -1) := by kernel_rfl
theorem j_at110 (s s2 : Value) : Vlv.at ⟨jL, s, jC, s2⟩ 110 = (true, 5) := by kernel_rfl

theorem jM0_ok : jM0.Ok := ⟨by decide +kernel, by decide +kernel, by decide +kernel, by decide +kernel, by decide +kernel, by decide +kernel, by decide +kernel, by decide +kernel, by decide +kernel, by decide +kernel⟩
theorem jM1_ok : jM1.Ok := ⟨by decide +kernel, by decide +kernel, by decide +kernel, by decide +kernel, by decide +kernel, by decide +kernel, by decide +kernel, by decide +kernel, by decide +kernel, by decide +kernel⟩
theorem jM2_ok : jM2.Ok := ⟨by decide +kernel, by decide +kernel, by decide +kernel, by decide +kernel, by decide +kernel, by decide +kernel, by decide +kernel, by decide +kernel, by decide +kernel, by decide +kernel⟩

theorem j_find : findF jH 1 [jF] = 3 := by simp [findF, Flt.tells, List.find?_cons, jH, jF, jM]
theorem jL_check : jL.check = 0 := by decide +kernel
theorem jL_ok : jL.Ok := Gl.check_ok jL_check

theorem jrule_ok (s s2 : Value) (b : Nat) {m : MS} (hm : m.Ok) : ∀ r, lk ([(3, jR)] : RM) (findF jH 1 [jF]) = some r → RuleOk r [(0, ⟨jL, s, jC, s2⟩)] [(1, b)] [⟨jL, s, jC, s2⟩] [(b, m)] := by
  rw [j_find]
  intro r h
  have h : some jR = some r := h
  injection h with h
  subst h
  exact ⟨fun _ => ⟨_, rfl, by simp, jL_ok, rfl⟩, fun _ => ⟨b, m, rfl, by simp, hm⟩⟩

theorem judgeR_rule {V : VM} {M : MM} {X : List (Nat × MS)} {f cls : Int} {dei : Bool} {bytes now : Int} {e : Nat} {d' : Vd} {X' : List (Nat × MS)} {r : Rul} {R : RM} (h : JudgeR R V M X f cls dei bytes now e d' X') (hr : lk R f = some r) :
    ∃ d1, AskR r V M X ⟨f, 0, cls, dei⟩ bytes now e d1 X' ∧ d' = ⟨d1.stream, e, d1.cls, d1.dei⟩ := by
  rcases h with ⟨h, _⟩ | ⟨r', d1, h, ha⟩
  · rw [hr] at h; cases h
  · rw [hr] at h; injection h with h; subst h; exact ⟨d1, ha⟩

theorem j_gate (s s2 : Value) {t : Int} {o : Bool} {c : Int} (h : Vlv.at ⟨jL, s, jC, s2⟩ t = (o, c)) : gateA jR [(0, ⟨jL, s, jC, s2⟩)] t 2 = if o = true then (false, if c ≥ 0 then c else 2) else (true, 2) := by
  unfold gateA
  rw [if_pos (show jR.gate ≥ 0 by decide)]
  show (if (Vlv.at ⟨jL, s, jC, s2⟩ t).1 = true then _ else _) = _
  rw [h]

theorem j_step0 (s s2 : Value) {b e : Nat} {d' : Vd} {X' : List (Nat × MS)} (h : JudgeR [(3, jR)] [(0, ⟨jL, s, jC, s2⟩)] [(1, b)] [(b, jM0)] (findF jH 1 [jF]) 2 jH.dei 80 10 e d' X') : e = 0 ∧ d' = ⟨3, 0, 5, false⟩ ∧ X' = [(b, jM1)] := by
  rw [j_find] at h
  obtain ⟨d1, ha, rfl⟩ := judgeR_rule h (r := jR) rfl
  have hg := j_gate s s2 (j_at10 s s2)
  rcases ha with ⟨c, _⟩ | ⟨_, c, _⟩ | ⟨_, _, c, _⟩ | ⟨_, _, _, b', m, hb, hx, rfl, hq⟩
  · exact absurd c.2 (by decide)
  · rw [hg] at c; cases c
  · exact absurd c (by decide)
  injection (show some b = some b' from hb) with hb
  subst hb
  simp only [List.mem_singleton, Prod.mk.injEq, true_and] at hx
  subst hx
  rw [j_mark0, hg] at hq
  rcases hq with ⟨c, _⟩ | ⟨_, rfl, rfl⟩
  · exact absurd c (by decide)
  · exact ⟨rfl, rfl, by simp [jM1]⟩

theorem j_step1 (s s2 : Value) {b e : Nat} {d' : Vd} {X' : List (Nat × MS)} (h : JudgeR [(3, jR)] [(0, ⟨jL, s, jC, s2⟩)] [(1, b)] [(b, jM1)] (findF jH 1 [jF]) 2 jH.dei 91 10 e d' X') : e = 1 ∧ d' = ⟨3, 1, 2, false⟩ ∧ X' = [(b, jM1)] := by
  rw [j_find] at h
  obtain ⟨d1, ha, rfl⟩ := judgeR_rule h (r := jR) rfl
  have hc : jR.most > 0 ∧ (91 : Int) > jR.most := by decide
  rcases ha with ⟨_, rfl, rfl, rfl⟩ | ⟨c, _⟩ | ⟨c, _⟩ | ⟨c, _⟩
  · exact ⟨rfl, rfl, rfl⟩
  · exact absurd hc c
  · exact absurd hc c
  · exact absurd hc c

theorem j_step2 (s s2 : Value) {b e : Nat} {d' : Vd} {X' : List (Nat × MS)} (h : JudgeR [(3, jR)] [(0, ⟨jL, s, jC, s2⟩)] [(1, b)] [(b, jM1)] (findF jH 1 [jF]) 2 jH.dei 80 60 e d' X') : e = 2 ∧ d' = ⟨3, 2, 2, false⟩ ∧ X' = [(b, jM1)] := by
  rw [j_find] at h
  obtain ⟨d1, ha, rfl⟩ := judgeR_rule h (r := jR) rfl
  have hg := j_gate s s2 (j_at60 s s2)
  rcases ha with ⟨c, _⟩ | ⟨_, _, rfl, rfl, rfl⟩ | ⟨_, c, _⟩ | ⟨_, c, _⟩
  · exact absurd c.2 (by decide)
  · exact ⟨rfl, rfl, rfl⟩
  · rw [hg] at c; cases c
  · rw [hg] at c; cases c

theorem j_step3 (s s2 : Value) {b e : Nat} {d' : Vd} {X' : List (Nat × MS)} (h : JudgeR [(3, jR)] [(0, ⟨jL, s, jC, s2⟩)] [(1, b)] [(b, jM1)] (findF jH 1 [jF]) 2 jH.dei 80 110 e d' X') : e = 0 ∧ d' = ⟨3, 0, 5, true⟩ ∧ X' = [(b, jM2)] := by
  rw [j_find] at h
  obtain ⟨d1, ha, rfl⟩ := judgeR_rule h (r := jR) rfl
  have hg := j_gate s s2 (j_at110 s s2)
  rcases ha with ⟨c, _⟩ | ⟨_, c, _⟩ | ⟨_, _, c, _⟩ | ⟨_, _, _, b', m, hb, hx, rfl, hq⟩
  · exact absurd c.2 (by decide)
  · rw [hg] at c; cases c
  · exact absurd c (by decide)
  injection (show some b = some b' from hb) with hb
  subst hb
  simp only [List.mem_singleton, Prod.mk.injEq, true_and] at hx
  subst hx
  rw [j_mark1, hg] at hq
  rcases hq with ⟨c, _⟩ | ⟨_, rfl, rfl⟩
  · exact absurd c (by decide)
  · exact ⟨rfl, rfl, by simp [jM2]⟩

theorem j_step4 (s s2 : Value) {b e : Nat} {d' : Vd} {X' : List (Nat × MS)} (h : JudgeR [(3, jR)] [(0, ⟨jL, s, jC, s2⟩)] [(1, b)] [(b, jM2)] (findF jH 1 [jF]) 2 jH.dei 80 110 e d' X') : e = 3 ∧ d' = ⟨3, 3, 5, false⟩ ∧ X' = [(b, jM3)] := by
  rw [j_find] at h
  obtain ⟨d1, ha, rfl⟩ := judgeR_rule h (r := jR) rfl
  have hg := j_gate s s2 (j_at110 s s2)
  rcases ha with ⟨c, _⟩ | ⟨_, c, _⟩ | ⟨_, _, c, _⟩ | ⟨_, _, _, b', m, hb, hx, rfl, hq⟩
  · exact absurd c.2 (by decide)
  · rw [hg] at c; cases c
  · exact absurd c (by decide)
  injection (show some b = some b' from hb) with hb
  subst hb
  simp only [List.mem_singleton, Prod.mk.injEq, true_and] at hx
  subst hx
  rw [j_mark2, hg] at hq
  rcases hq with ⟨_, rfl, rfl⟩ | ⟨c, _⟩
  · exact ⟨rfl, rfl, by simp [jM3]⟩
  · exact absurd rfl c

theorem j_set1 {e : Nat} {R' : RM} (h : SetR ⟨0, 0, -1⟩ 3 [] [] [] e R') : e = 21 ∧ R' = [] := by
  have hw : ¬ Rul.wide ⟨0, 0, -1⟩ 3 := by decide
  have hl : Rul.lacks ⟨0, 0, -1⟩ [] [] := .inl ⟨by decide, rfl⟩
  rcases h with ⟨c, _⟩ | ⟨_, _, rfl, rfl⟩ | ⟨_, c, _⟩ | ⟨_, c, _⟩
  · exact absurd c hw
  · exact ⟨rfl, rfl⟩
  · exact absurd hl c
  · exact absurd hl c

theorem j_set2 {e : Nat} {R' : RM} {w : Vlv} {b : Nat} (h : SetR jR 3 [] [(0, w)] [(1, b)] e R') : e = 0 ∧ R' = [(3, jR)] := by
  have hw : ¬ Rul.wide jR 3 := by decide
  have hl : ¬ Rul.lacks jR [(0, w)] [(1, b)] := by
    rintro (⟨_, c⟩ | ⟨_, c⟩)
    · exact absurd (show some w = none from c) (by simp)
    · exact absurd (show some b = none from c) (by simp)
  rcases h with ⟨c, _⟩ | ⟨_, c, _⟩ | ⟨_, _, _, c, _⟩ | ⟨_, _, _, rfl, rfl⟩
  · exact absurd c hw
  · exact absurd c hl
  · exact absurd c (by decide)
  · exact ⟨rfl, rfl⟩

theorem j_gate1 {e : Nat} {V' : VM} {B' : List Vlv} (h : SetG jL jC 0 [] [] e V' B') : e = 0 ∧ ∃ s b o n c, V' = [(0, ⟨jL, s, jC, .slice (some ⟨b, o, none⟩) n c⟩)] ∧ B' = [⟨jL, s, jC, .slice (some ⟨b, o, none⟩) n c⟩] := by
  rcases h with ⟨c, _⟩ | ⟨_, _, c, _⟩ | ⟨_, _, _, c, _⟩ | ⟨_, _, _, _, _, rfl, ⟨wl, ws, wc, w2⟩, rfl, rfl, ⟨b, o, n, c, rfl⟩, rfl, rfl⟩
  · exact absurd c (by decide)
  · exact absurd jL_check c
  · exact absurd c (by decide)
  · exact ⟨rfl, ws, b, o, n, c, rfl, rfl⟩

theorem j_meter1 {e : Nat} {M' : MM} {X' : List (Nat × MS)} (h : SetM 1 0 100 0 100 [] [] e M' X') : e = 0 ∧ ∃ b, M' = [(1, b)] ∧ X' = [(b, jM0)] := by
  have hc : CfgOk 0 100 0 100 := by unfold CfgOk; decide
  rcases h with ⟨c, _⟩ | ⟨_, _, c, _⟩ | ⟨_, _, _, rfl, b, _, rfl, rfl⟩
  · exact absurd c (by decide)
  · exact absurd hc c
  · exact ⟨rfl, b, rfl, rfl⟩

end Go.Proofs.Ytloghahkelogbaa
