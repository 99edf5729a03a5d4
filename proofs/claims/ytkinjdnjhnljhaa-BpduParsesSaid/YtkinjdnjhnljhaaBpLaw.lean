import Derived.Test.YtkinjdnjhnljhaaEnv
import Derived.Test.YtkinjdnjhnljhaaLib
namespace Go.Proofs.Ytkinjdnjhnljhaa
open Go.Vc
set_option maxRecDepth 10000
set_option maxHeartbeats 4000000

/-! ### messages of the spanning tree, as plain lists -/

structure Bp where
  kind : Int
  root : Nat
  cost : Nat
  bridge : Nat
  port : Int
  change : Bool
  ack : Bool
  prop : Bool
  agree : Bool
  learn : Bool
  fwd : Bool
  role : Int
  age : Int
  maxAge : Int
  hello : Int
  delay : Int

def Bp.zero (k : Int) : Bp := ⟨k, 0, 0, 0, 0, false, false, false, false, false, false, 0, 0, 0, 0, 0⟩

def Bp.cells (b : Bp) : List Value := [.int .i64 b.kind, .int .u64 b.root, .int .u64 b.cost, .int .u64 b.bridge, .int .i64 b.port, .bool b.change, .bool b.ack, .bool b.prop, .bool b.agree, .bool b.learn, .bool b.fwd,
  .int .i64 b.role, .int .i64 b.age, .int .i64 b.maxAge, .int .i64 b.hello, .int .i64 b.delay]

def Bp.rapid (b : Bp) : Bool := b.prop || b.agree || b.learn || b.fwd || decide (b.role ≠ 0)

instance : DecidableEq Bp := fun a b => by
  cases a; cases b
  simp only [Bp.mk.injEq]
  infer_instance

def Bp.check (b : Bp) : Nat :=
  if b.kind < 0 ∨ b.kind > 2 then 11 else if b.kind = 2 ∧ b ≠ Bp.zero 2 then 1 else if b.kind = 2 then 0
  else if (b.kind = 0 ∧ b.rapid = true) ∨ b.role < 0 ∨ b.role > 3 then 1 else if b.cost > 4294967295 ∨ b.port < 0 ∨ b.port > 65535 then 1
  else if b.age < 0 ∨ b.age > 65535 then 1 else if b.maxAge < 0 ∨ b.maxAge > 65535 then 1 else if b.hello < 0 ∨ b.hello > 65535 then 1 else if b.delay < 0 ∨ b.delay > 65535 then 1
  else if b.age ≥ b.maxAge then 4 else 0

def Bp.flags (b : Bp) : Nat := (((((b.ack.toNat * 2 + b.agree.toNat) * 2 + b.fwd.toNat) * 2 + b.learn.toNat) * 4 + b.role.toNat) * 2 + b.prop.toNat) * 2 + b.change.toNat

def Bp.nums (b : Bp) : List (Nat × Nat) := [(b.root, 8), (b.cost, 4), (b.bridge, 8), (b.port.toNat, 2), (b.age.toNat, 2), (b.maxAge.toNat, 2), (b.hello.toNat, 2), (b.delay.toNat, 2)]

def Bp.build (b : Bp) : List UInt8 :=
  if b.kind = 2 then [66, 66, 3, 0, 0, 0, 128]
  else [66, 66, 3, 0, 0, if b.kind = 1 then 2 else 0, if b.kind = 1 then 2 else 0, UInt8.ofNat b.flags] ++ b.nums.flatMap (fun p => beBytes p.1 p.2) ++ (if b.kind = 1 then [0] else [])

def num (L : List UInt8) (at_ k : Nat) : Nat := beNum ((L.drop at_).take k)

theorem num_lt (L : List UInt8) (a k : Nat) : num L a k < 256 ^ k := by
  have h := beNum_lt ((L.drop a).take k)
  have h2 : 256 ^ ((L.drop a).take k).length ≤ 256 ^ k := Nat.pow_le_pow_right (by omega) (by simp; omega)
  unfold num
  omega

theorem num_here (n k : Nat) (R : List UInt8) : num (beBytes n k ++ R) 0 k = n % 256 ^ k := by
  unfold num
  rw [List.drop_zero, List.take_left' (beBytes_length n k), beNum_beBytes]

theorem num_skip (n j a k : Nat) (R : List UInt8) (h : j ≤ a) : num (beBytes n j ++ R) a k = num R (a - j) k := by
  unfold num
  congr 2
  rw [List.drop_append, beBytes_length, List.drop_of_length_le (by rw [beBytes_length]; exact h), List.nil_append]

theorem num_cons (x : UInt8) (R : List UInt8) (a k : Nat) : num (x :: R) (a + 1) k = num R a k := rfl
theorem num_one (x : UInt8) (R : List UInt8) : num (x :: R) 0 1 = x.toNat := by simp [num, beNum]

def msgB (L : List UInt8) (rapid : Bool) : Bp :=
  ⟨rapid.toNat, num L 8 8, num L 16 4, num L 20 8, num L 28 2, decide (num L 7 1 % 2 = 1), decide (num L 7 1 / 128 % 2 = 1), rapid && decide (num L 7 1 / 2 % 2 = 1), rapid && decide (num L 7 1 / 64 % 2 = 1), rapid && decide (num L 7 1 / 16 % 2 = 1),
    rapid && decide (num L 7 1 / 32 % 2 = 1), if rapid = true then (num L 7 1 / 4 % 4 : Nat) else 0, num L 30 2, num L 32 2, num L 34 2, num L 36 2⟩

def tailB (L : List UInt8) (rapid : Bool) : Except Nat Bp :=
  if L.length < 38 + rapid.toNat then .error 2 else if num L 30 2 ≥ num L 32 2 then .error 4 else .ok (msgB L rapid)

def parseB (L : List UInt8) : Except Nat Bp :=
  if L.length < 7 then .error 2 else if num L 0 3 ≠ 4342275 ∨ num L 3 2 ≠ 0 then .error 11
  else if num L 6 1 = 128 then .ok (Bp.zero 2) else if num L 6 1 = 2 then (if num L 5 1 < 2 then .error 11 else tailB L true)
  else if num L 6 1 = 0 then tailB L false else .error 11

structure Bp.Fit (b : Bp) : Prop where
  k : b.kind = 0 ∨ b.kind = 1
  plain : b.kind = 0 → b.rapid = false
  r0 : 0 ≤ b.role
  r3 : b.role ≤ 3
  c : b.cost ≤ 4294967295
  p0 : 0 ≤ b.port
  p1 : b.port ≤ 65535
  a0 : 0 ≤ b.age
  a1 : b.age ≤ 65535
  m0 : 0 ≤ b.maxAge
  m1 : b.maxAge ≤ 65535
  h0 : 0 ≤ b.hello
  h1 : b.hello ≤ 65535
  d0 : 0 ≤ b.delay
  d1 : b.delay ≤ 65535
  lt : b.age < b.maxAge

theorem bp_check {b : Bp} (h : b.check = 0) : b = Bp.zero 2 ∨ b.Fit := by
  unfold Bp.check at h
  split at h
  · cases h
  rename_i c0
  split at h
  · cases h
  rename_i c1
  split at h
  · rename_i c2
    by_cases e : b = Bp.zero 2
    · exact .inl e
    · exact absurd ⟨c2, e⟩ c1
  rename_i c2
  split at h
  · cases h
  rename_i c3
  split at h
  · cases h
  rename_i c4
  split at h
  · cases h
  rename_i c5
  split at h
  · cases h
  rename_i c6
  split at h
  · cases h
  rename_i c7
  split at h
  · cases h
  rename_i c8
  split at h
  · cases h
  rename_i c9
  right
  refine ⟨by omega, fun hk => ?_, by omega, by omega, by omega, by omega, by omega, by omega, by omega, by omega, by omega, by omega, by omega, by omega, by omega, by omega⟩
  cases hr : b.rapid with
  | false => rfl
  | true => exact absurd (.inl ⟨hk, hr⟩) c3

theorem flags_lt {b : Bp} (f : b.Fit) : b.flags < 256 := by
  have := f.r0
  have := f.r3
  have : ∀ q : Bool, q.toNat ≤ 1 := by decide
  have h1 := this b.ack
  have h2 := this b.agree
  have h3 := this b.fwd
  have h4 := this b.learn
  have h5 := this b.prop
  have h6 := this b.change
  unfold Bp.flags
  omega

theorem build_bytes {b : Bp} (f : b.Fit) : ∃ x : UInt8, (x = if b.kind = 1 then 2 else 0) ∧ ∀ Z, b.build ++ Z = 66 :: 66 :: 3 :: 0 :: 0 :: x :: x :: UInt8.ofNat b.flags :: (beBytes b.root 8 ++ (beBytes b.cost 4 ++ (beBytes b.bridge 8 ++ (beBytes b.port.toNat 2
    ++ (beBytes b.age.toNat 2 ++ (beBytes b.maxAge.toNat 2 ++ (beBytes b.hello.toNat 2 ++ (beBytes b.delay.toNat 2 ++ ((if b.kind = 1 then [0] else []) ++ Z))))))))) := by
  refine ⟨_, rfl, fun Z => ?_⟩
  unfold Bp.build
  rw [if_neg (by have := f.k; omega)]
  simp [Bp.nums, List.append_assoc]

theorem build_length {b : Bp} (f : b.Fit) : b.build.length = 38 + (if b.kind = 1 then 1 else 0) := by
  obtain ⟨x, _, h⟩ := build_bytes f
  have := congrArg List.length (h [])
  rw [List.append_nil] at this
  rw [this]
  split <;> simp [beBytes_length]

theorem bool_bit (q : Bool) : decide (q.toNat = 1) = q := by cases q <;> rfl
theorem bool_le (q : Bool) : q.toNat ≤ 1 := by cases q <;> decide

theorem parse_bp {b : Bp} (h : b.check = 0) (hu : b.root < 18446744073709551616 ∧ b.bridge < 18446744073709551616) (Z : List UInt8) : parseB (b.build ++ Z) = .ok b := by
  rcases bp_check h with rfl | f
  · have e : (Bp.zero 2).build = [66, 66, 3, 0, 0, 0, 128] := rfl
    rw [e]
    unfold parseB
    rw [if_neg (by simp), if_neg, if_pos]
    · rfl
    · rintro (x | x) <;> exact x rfl
  · have hl := build_length f
    obtain ⟨x, hx, hb⟩ := build_bytes f
    have hlt := flags_lt f
    have hb := hb Z
    have hlen : (b.build ++ Z).length = 38 + (if b.kind = 1 then 1 else 0) + Z.length := by rw [List.length_append, hl]
    generalize b.build ++ Z = L at *
    have n0 : num L 0 3 = 4342275 := by rw [hb]; rfl
    have n3 : num L 3 2 = 0 := by rw [hb]; rfl
    have n5 : num L 5 1 = x.toNat := by rw [hb]; simp only [num_cons, num_one]
    have n6 : num L 6 1 = x.toNat := by rw [hb]; simp only [num_cons, num_one]
    have n7 : num L 7 1 = b.flags := by rw [hb]; simp only [num_cons, num_one, UInt8.toNat_ofNat']; exact Nat.mod_eq_of_lt hlt
    have p8 : (256 : Nat) ^ 8 = 18446744073709551616 := by decide
    have n8 : num L 8 8 = b.root := by
      rw [hb]; simp only [num_cons, num_here]
      exact Nat.mod_eq_of_lt (by omega)
    have f256 : (256 : Nat) ^ 2 = 65536 := by decide
    have n16 : num L 16 4 = b.cost := by
      rw [hb]; simp only [num_cons]; rw [num_skip _ _ _ _ _ (by decide), num_here]
      have p4 : (256 : Nat) ^ 4 = 4294967296 := by decide
      exact Nat.mod_eq_of_lt (by have := f.c; omega)
    have n20 : num L 20 8 = b.bridge := by
      rw [hb]; simp only [num_cons]; rw [num_skip _ _ _ _ _ (by decide), num_skip _ _ _ _ _ (by decide), num_here]
      exact Nat.mod_eq_of_lt (by omega)
    have n28 : num L 28 2 = b.port.toNat := by
      rw [hb]; simp only [num_cons]; rw [num_skip _ _ _ _ _ (by decide), num_skip _ _ _ _ _ (by decide), num_skip _ _ _ _ _ (by decide), num_here]
      exact Nat.mod_eq_of_lt (by have := f.p1; omega)
    have n30 : num L 30 2 = b.age.toNat := by
      rw [hb]; simp only [num_cons]; rw [num_skip _ _ _ _ _ (by decide), num_skip _ _ _ _ _ (by decide), num_skip _ _ _ _ _ (by decide), num_skip _ _ _ _ _ (by decide), num_here]
      exact Nat.mod_eq_of_lt (by have := f.a1; omega)
    have n32 : num L 32 2 = b.maxAge.toNat := by
      rw [hb]; simp only [num_cons]; rw [num_skip _ _ _ _ _ (by decide), num_skip _ _ _ _ _ (by decide), num_skip _ _ _ _ _ (by decide), num_skip _ _ _ _ _ (by decide), num_skip _ _ _ _ _ (by decide), num_here]
      exact Nat.mod_eq_of_lt (by have := f.m1; omega)
    have n34 : num L 34 2 = b.hello.toNat := by
      rw [hb]; simp only [num_cons]; rw [num_skip _ _ _ _ _ (by decide), num_skip _ _ _ _ _ (by decide), num_skip _ _ _ _ _ (by decide), num_skip _ _ _ _ _ (by decide), num_skip _ _ _ _ _ (by decide), num_skip _ _ _ _ _ (by decide), num_here]
      exact Nat.mod_eq_of_lt (by have := f.h1; omega)
    have n36 : num L 36 2 = b.delay.toNat := by
      rw [hb]; simp only [num_cons]
      rw [num_skip _ _ _ _ _ (by decide), num_skip _ _ _ _ _ (by decide), num_skip _ _ _ _ _ (by decide), num_skip _ _ _ _ _ (by decide), num_skip _ _ _ _ _ (by decide), num_skip _ _ _ _ _ (by decide), num_skip _ _ _ _ _ (by decide), num_here]
      exact Nat.mod_eq_of_lt (by have := f.d1; omega)
    have ok : ∀ q : Bool, b.kind = (q.toNat : Int) → (q = false → b.rapid = false) → msgB L q = b := by
      intro q hq hp
      obtain ⟨_, _, r0, r3, _, p0, _, a0, _, m0, _, g0, _, d0, _, _⟩ := f
      unfold msgB
      rw [n7, n8, n16, n20, n28, n30, n32, n34, n36]
      obtain ⟨kind, root, cost, bridge, port, change, ack, prop, agree, learn, fwd, role, age, maxAge, hello, delay⟩ := b
      dsimp only at *
      obtain ⟨r, rfl⟩ := Int.eq_ofNat_of_zero_le r0
      have h1 := bool_le ack
      have h2 := bool_le agree
      have h3 := bool_le fwd
      have h4 := bool_le learn
      have h5 := bool_le prop
      have h6 := bool_le change
      have eF : ∃ F, F = Bp.flags ⟨kind, root, cost, bridge, port, change, ack, prop, agree, learn, fwd, (r : Int), age, maxAge, hello, delay⟩ ∧
          F = (((((ack.toNat * 2 + agree.toNat) * 2 + fwd.toNat) * 2 + learn.toNat) * 4 + r) * 2 + prop.toNat) * 2 + change.toNat := ⟨_, rfl, rfl⟩
      obtain ⟨F, eF1, eF⟩ := eF
      rw [← eF1]
      have q0 : F % 2 = change.toNat := by omega
      have q7 : F / 128 % 2 = ack.toNat := by omega
      have q1 : F / 2 % 2 = prop.toNat := by omega
      have q6 : F / 64 % 2 = agree.toNat := by omega
      have q4 : F / 16 % 2 = learn.toNat := by omega
      have q5 : F / 32 % 2 = fwd.toNat := by omega
      have q2 : F / 4 % 4 = r := by omega
      rw [q0, q1, q2, q4, q5, q6, q7, bool_bit, bool_bit, bool_bit, bool_bit, bool_bit, bool_bit]
      have i1 : ∀ z : Int, 0 ≤ z → ((z.toNat : Nat) : Int) = z := fun z hz => Int.toNat_of_nonneg hz
      rw [i1 _ p0, i1 _ a0, i1 _ m0, i1 _ g0, i1 _ d0]
      cases q with
      | true => simp [hq]
      | false =>
        have hp := hp rfl
        simp only [Bp.rapid, Bool.or_eq_false_iff, decide_eq_false_iff_not, Classical.not_not] at hp
        obtain ⟨⟨⟨⟨p1, p2⟩, p3⟩, p4⟩, p5⟩ := hp
        simp [hq, p1, p2, p3, p4, p5]
    have hlt2 : ¬ (b.age.toNat ≥ b.maxAge.toNat) := by
      have := f.lt
      have := f.a0
      omega
    unfold parseB
    rw [if_neg (by omega), if_neg (by rintro (y | y); · exact y n0
                                      · exact y n3), n5, n6]
    rcases f.k with hk | hk
    · rw [hk] at hx
      have hx0 : x.toNat = 0 := by rw [hx]; rfl
      rw [hx0, if_neg (by decide), if_neg (by decide), if_pos rfl]
      unfold tailB
      rw [if_neg (by show ¬ _ < 38 + 0; omega), n30, n32, if_neg hlt2, ok false hk (fun _ => f.plain hk)]
    · rw [hk] at hx hlen
      rw [if_pos rfl] at hlen
      have hx2 : x.toNat = 2 := by rw [hx]; rfl
      rw [hx2, if_neg (by decide), if_pos rfl, if_neg (by decide)]
      unfold tailB
      rw [if_neg (by show ¬ _ < 38 + 1; omega), n30, n32, if_neg hlt2, ok true hk (fun z => by cases z)]

theorem parse_cut {b : Bp} (h : b.check = 0) {cut : Nat} (hc : cut < b.build.length) : parseB (b.build.take cut) = .error 2 := by
  by_cases h7 : cut < 7
  · unfold parseB
    rw [if_pos (by rw [List.length_take]; omega)]
  rcases bp_check h with rfl | f
  · exact absurd hc (by show ¬ cut < 7; exact h7)
  · have hl := build_length f
    obtain ⟨x, hx, hb⟩ := build_bytes f
    have hb := hb []
    rw [List.append_nil] at hb
    have hlen : (b.build.take cut).length = cut := by rw [List.length_take]; omega
    have ht : b.build.take cut = 66 :: 66 :: 3 :: 0 :: 0 :: x :: x :: (b.build.drop 7).take (cut - 7) := by
      obtain ⟨c, rfl⟩ : ∃ c, cut = c + 7 := ⟨cut - 7, by omega⟩
      rw [hb]
      simp only [List.take_succ_cons, List.drop_succ_cons, List.drop_zero, Nat.add_sub_cancel]
    generalize b.build.take cut = L at *
    have n0 : num L 0 3 = 4342275 := by rw [ht]; rfl
    have n3 : num L 3 2 = 0 := by rw [ht]; rfl
    have n5 : num L 5 1 = x.toNat := by rw [ht]; simp only [num_cons, num_one]
    have n6 : num L 6 1 = x.toNat := by rw [ht]; simp only [num_cons, num_one]
    unfold parseB
    rw [if_neg (by omega), if_neg (by rintro (y | y); · exact y n0
                                      · exact y n3), n5, n6]
    rcases f.k with hk | hk
    · rw [hk] at hx hl
      have hx0 : x.toNat = 0 := by rw [hx]; rfl
      rw [hx0, if_neg (by decide), if_neg (by decide), if_pos rfl]
      unfold tailB
      rw [if_pos (by show _ < 38 + 0; rw [if_neg (by decide)] at hl; omega)]
    · rw [hk] at hx hl
      have hx2 : x.toNat = 2 := by rw [hx]; rfl
      rw [hx2, if_neg (by decide), if_pos rfl, if_neg (by decide)]
      unfold tailB
      rw [if_pos (by show _ < 38 + 1; rw [if_pos rfl] at hl; omega)]

end Go.Proofs.Ytkinjdnjhnljhaa
