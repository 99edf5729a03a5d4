import Derived.Test.YtkinjdnjhnljhaaMac5
namespace Go.Proofs.Ytkinjdnjhnljhaa
open Go.Vc
set_option maxRecDepth 10000
set_option maxHeartbeats 4000000

def nextH (F : Hdr) (tagged : Bool) (pcp : Int) (dei : Bool) (vid : Int) : Hdr := ⟨⟨0, 0, 0, 0, 0, 0⟩, F.src, tagged, pcp, dei, vid, 1536, false⟩
def atF (F : Hdr) : Nat := if F.tagged = true then 16 else 12
def restF (L : List UInt8) (F : Hdr) : List UInt8 := (L.drop (atF F)).take (L.length - 4 - atF F)
def outF (L : List UInt8) (N : Hdr) : List UInt8 := L.take 12 ++ (if N.tagged = true then N.tagB else [])

def retagF (L : List UInt8) (tagged : Bool) (pcp : Int) (dei : Bool) (vid : Int) : Except Nat (List UInt8) := match parseF L with
  | .error e => .error e
  | .ok (F, _) =>
    if (nextH F tagged pcp dei vid).check 0 ≠ 0 then .error ((nextH F tagged pcp dei vid).check 0)
    else if tagged = false ∧ (restF L F).length > 1 ∧ (restF L F).getD 0 0 = 129 ∧ (restF L F).getD 1 0 = 0 then .error 4
    else if (outF L (nextH F tagged pcp dei vid)).length + (restF L F).length + 4 > 1522 ∨ (tagged = false ∧ (outF L (nextH F tagged pcp dei vid)).length + (restF L F).length + 4 > 1518) then .error 3
    else .ok (sealL (padL (outF L (nextH F tagged pcp dei vid) ++ restF L F)))

/-- Bytes, or an error. -/
def Gave (h0 h' : Heap) (r : Except Nat (List UInt8)) (v : Value) : Prop := match r with
  | .error c => c ≠ 0 ∧ v = .tuple #[.slice none 0 0, .int .i64 (c : Int)]
  | .ok D => ∃ s, v = .tuple #[s, .int .i64 0] ∧ OwnS h0.size h' 5 1 s D.length (D.map byteV)

theorem one_text {h : Heap} {v1 : Value} {L1 : List UInt8} (h1 : BytesV h v1 L1) : ∀ (i : Nat) v L, [v1][i]? = some v → [L1][i]? = some L → BytesV h v L := by
  intro i v L a b
  match i with
  | 0 =>
    simp only [List.getElem?_cons_zero, Option.some.injEq] at a b
    subst a b
    exact h1
  | n + 1 => simp at a

theorem parse_len {L : List UInt8} {p : Hdr × List UInt8} (h : parseF L = .ok p) : 64 ≤ L.length ∧ L.length ≤ 1522 := by
  unfold parseF at h
  split at h
  · cases h
  split at h
  · cases h
  omega

end Go.Proofs.Ytkinjdnjhnljhaa
