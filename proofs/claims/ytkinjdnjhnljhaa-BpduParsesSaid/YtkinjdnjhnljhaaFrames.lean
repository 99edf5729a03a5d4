import Derived.Test.YtkinjdnjhnljhaaMac7
namespace Go.Proofs.Ytkinjdnjhnljhaa
open Go.Vc
set_option maxRecDepth 100000
set_option maxHeartbeats 4000000

/-! ### the head of the laws of mac -/

def F0 : Hdr := ⟨⟨1, 2, 3, 4, 5, 6⟩, ⟨2, 0, 0, 0, 0, 1⟩, true, 5, false, 100, 2048, false⟩
def hello : List UInt8 := [104, 101, 108, 108, 111]
def B0 : List UInt8 := F0.build hello
def C0 : List UInt8 := match retagF B0 false 0 false 0 with
  | .ok c => c
  | .error _ => []
def F1 : Hdr := ⟨⟨1, 2, 3, 4, 5, 6⟩, ⟨2, 0, 0, 0, 0, 1⟩, false, 0, false, 0, 2048, false⟩

theorem f_check : F0.check (hello.length : Nat) = 0 := by kernel_rfl
theorem f_len : B0.length = 64 := by kernel_rfl
theorem f_parse : parseF B0 = .ok (F0, hello ++ List.replicate 37 0) := by kernel_rfl
theorem f_retag : retagF B0 false 0 false 0 = .ok C0 := by kernel_rfl
theorem f_parse2 : parseF C0 = .ok (F1, hello ++ List.replicate 41 0) := by kernel_rfl
theorem f_long : F0.check 1501 = 3 := by kernel_rfl
theorem f_text : F0.dst.text = [48, 49, 58, 48, 50, 58, 48, 51, 58, 48, 52, 58, 48, 53, 58, 48, 54] := by kernel_rfl

end Go.Proofs.Ytkinjdnjhnljhaa
