import Derived.Test.YtkinjdnjhnljhaaMac6
namespace Go.Proofs.Ytkinjdnjhnljhaa
open Go.Vc
set_option maxRecDepth 10000
set_option maxHeartbeats 4000000

/-! ### mac: an address in words -/

def hexL : List UInt8 := [48, 49, 50, 51, 52, 53, 54, 55, 56, 57, 97, 98, 99, 100, 101, 102]
def hexB (n : Nat) : UInt8 := hexL.getD n 0
def wordB (x : UInt8) : List UInt8 := [hexB (x.toNat / 16), hexB (x.toNat % 16)]
def textL : List UInt8 → List UInt8
  | [] => []
  | x :: r => textL r ++ (if r = [] then [] else [58]) ++ wordB x
def Mac6.text (m : Mac6) : List UInt8 := textL [m.a5, m.a4, m.a3, m.a2, m.a1, m.a0]

theorem hex_at (n : Nat) (h : n < 16) (s : ByteArray) (hs : s = ⟨hexL.toArray⟩) : (s.data[n]!) = hexB n := by
  subst hs
  have : ∀ n : Fin 16, ((⟨hexL.toArray⟩ : ByteArray).data[n.val]!) = hexB n.val := by decide
  exact this ⟨n, h⟩

end Go.Proofs.Ytkinjdnjhnljhaa
