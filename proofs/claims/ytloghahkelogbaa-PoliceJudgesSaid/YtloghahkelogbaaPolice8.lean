import Derived.Test.YtloghahkelogbaaPolice7
namespace Go.Proofs.Ytloghahkelogbaa
open Go.Vc
set_option maxRecDepth 10000
set_option maxHeartbeats 8000000

/-! ### police: a valve at a time -/

theorem vseek_lt {es : List Ent} {into : Int} : ∀ (f i : Nat), i < es.length → vseek es into f i < es.length
  | 0, _, h => h
  | f + 1, i, h => by
    rw [vseek]
    split
    · rename_i c
      exact vseek_lt f (i + 1) c.2
    · exact h

def Vlv.at (v : Vlv) (t : Int) : Bool × Int :=
  if t < v.l.base then (true, -1) else match v.l.es[vix v.l.es (v.l.into t)]?, v.cs[vix v.l.es (v.l.into t)]? with
    | some x, some c => (bAnd .i64 x.op 1 == 1, c)
    | _, _ => (true, -1)

theorem vlv_call (h0 : Heap) (v : Vlv) (t : Int) (hv : VlvAt h0 v) (ok : v.l.Ok) (hcs : v.cs.length = v.l.es.length) (ht : t ≤ 9223372036854775807) :
    CallK Try.prog 40 #[v.enc, .int .i64 t] h0 fun r h' => Keep (fun _ => False) h0 h' ∧ r = .tuple #[.bool (v.at t).1, .int .i64 (v.at t).2] := by
  have hlt : vix v.l.es (v.l.into t) < v.l.es.length := vseek_lt _ _ (by have := ok.n1; omega)
  obtain ⟨x, hx⟩ := list_at hlt
  obtain ⟨c, hc⟩ := list_at (show vix v.l.es (v.l.into t) < v.cs.length by omega)
  have e : v.at t = if t < v.l.base then (true, -1) else (bAnd .i64 x.op 1 == 1, c) := by
    unfold Vlv.at
    rw [hx, hc]
  refine CallK.mono (vat_call h0 v.l v.s v.s2 v.cs t hv.ents hv.ints ok hcs ht x c hx hc) ?_
  rintro r h' ⟨k, rfl⟩
  refine ⟨k, ?_⟩
  rw [e]
  split <;> rfl

/-- A verdict. -/
structure Vd where
  stream : Int
  reason : Int
  cls : Int
  dei : Bool

def Vd.cells (v : Vd) : List Value := [.int .i64 v.stream, .int .i64 v.reason, .int .i64 v.cls, .bool v.dei]

end Go.Proofs.Ytloghahkelogbaa
