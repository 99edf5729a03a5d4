/- What a call does, reckoned over heaps: a verified condition generator for the model of Go (of this session's own make). -/
import Derived.Calls
import Derived.Orders
import Derived.Laws.Sem
import Derived.Laws.World
import Derived.RowKit
import GoSem.ClaimChange
import GoSem.ClaimJoined
import Derived.RangeFuncFrom
import Derived.RangeFuncLeaves
import Derived.RangeFuncCalls
import Derived.Shelf.Abstract
namespace Go.Vc
variable {ds : List Deferred}

/-! What a call does, reckoned over heaps alone: states are what is known of a frame's slots. -/

abbrev Heap := Array Obj
abbrev M := List (Nat × Value)

def look : M → Nat → Option Value
  | [], _ => none
  | (d, v) :: r, t => match Nat.beq d t with
    | true => some v
    | false => look r t

def ev (m : M) : Operand → Option Value
  | .tmp t => look m t
  | .const v => some v
  | .global g => some (.pointer (some ⟨g, 0, none⟩))
  | .func f => some (.func (.func f) #[] #[])

structure St (ds : List Deferred) (n : Nat) (m : M) (a : Act) : Prop where
  defers : a.defers = ds
  size : a.tmps.size = n
  has : ∀ t v, look m t = some v → a.tmps[t]? = some v

theorem St.ev {n : Nat} {m : M} {a : Act} (h : St ds n m a) {x : Operand} {v : Value} (he : ev m x = some v) : a.eval x = v := by
  cases x with
  | tmp t => simp only [Vc.ev] at he; have := h.has t v he; simp [Act.eval, Array.getD_eq_getD_getElem?, this]
  | const u => simpa [Vc.ev, Act.eval] using he
  | global g => simpa [Vc.ev, Act.eval] using he
  | func f => simpa [Vc.ev, Act.eval] using he

theorem St.put {n : Nat} {m : M} {a : Act} (h : St ds n m a) {d : Nat} {v : Value} (hd : d < n) : St ds n ((d, v) :: m) (a.put (some d) v) := by
  refine ⟨h.defers, ?_, ?_⟩
  · simp [Act.put, h.size]
  · intro t u hu
    simp only [look] at hu
    simp only [Act.put, Array.getElem?_setIfInBounds]
    by_cases e : d = t
    · subst e
      rw [Nat.beq_refl] at hu
      simp only [Option.some.injEq] at hu
      subst hu
      simp [h.size, hd]
    · have : Nat.beq d t = false := by cases hb : Nat.beq d t with
        | false => rfl
        | true => exact absurd (Nat.eq_of_beq_eq_true hb) e
      rw [this] at hu
      simp only [] at hu
      simp [e, h.has t u hu]

/-- A test: known, or both ways. -/
def iteB (b : Bool) (A B : Prop) : Prop := match b with
  | true => A
  | false => B
theorem iteB_split {b : Bool} {A B : Prop} (ha : b = true → A) (hb : b = false → B) : iteB b A B := by
  cases b with
  | true => exact ha rfl
  | false => exact hb rfl
theorem iteB_true {b : Bool} {A B : Prop} (h : b = true) (ha : A) : iteB b A B := by subst h; exact ha
theorem iteB_false {b : Bool} {A B : Prop} (h : b = false) (hb : B) : iteB b A B := by subst h; exact hb

/-- A side condition. -/
def cnd (b : Bool) (A : Prop) : Prop := match b with
  | true => A
  | false => False
theorem cnd_intro {b : Bool} {A : Prop} (h : b = true) (ha : A) : cnd b A := by subst h; exact ha
theorem cnd_out {b : Bool} {A : Prop} (h : cnd b A) : b = true ∧ A := by
  cases b with
  | true => exact ⟨rfl, h⟩
  | false => exact h.elim

/-! ### Heaps -/

structure Upd (h : Heap) (b : Nat) (o : Obj) (h' : Heap) : Prop where
  size : h'.size = h.size
  get : h'[b]? = some o
  old : ∀ k, k ≠ b → h'[k]? = h[k]?

structure New (h : Heap) (o : Obj) (b : Nat) (h' : Heap) : Prop where
  at_ : b = h.size
  size : h'.size = h.size + 1
  get : h'[b]? = some o
  old : ∀ k, k < h.size → h'[k]? = h[k]?

theorem New.push (h : Heap) (o : Obj) : New h o h.size (h.push o) :=
  ⟨rfl, by simp, by simp, fun k hk => by rw [Array.getElem?_push, if_neg (by omega)]⟩

theorem lt_of_get {h : Heap} {b : Nat} {o : Obj} (e : h[b]? = some o) : b < h.size := by
  rcases Nat.lt_or_ge b h.size with x | x
  · exact x
  · simp [Array.getElem?_eq_none x] at e

/-- What lay in the heap, but for the blocks of S, lies there as it was. -/
structure Keep (S : Nat → Prop) (h h' : Heap) : Prop where
  size : h.size ≤ h'.size
  old : ∀ k, k < h.size → ¬ S k → h'[k]? = h[k]?

theorem Keep.refl (S : Nat → Prop) (h : Heap) : Keep S h h := ⟨Nat.le_refl _, fun _ _ _ => rfl⟩
theorem Keep.trans {S : Nat → Prop} {S' : Nat → Prop} {a b c : Heap} (h : Keep S a b) (k : Keep S' b c) (hs : ∀ k, k < a.size → S' k → S k) : Keep S a c :=
  ⟨Nat.le_trans h.size k.size, fun i hi hn => (k.old i (Nat.lt_of_lt_of_le hi h.size) (fun x => hn (hs i hi x))).trans (h.old i hi hn)⟩
theorem New.keep {S : Nat → Prop} {h h' : Heap} {o : Obj} {b : Nat} (x : New h o b h') : Keep S h h' := ⟨by rw [x.size]; omega, fun k hk _ => x.old k hk⟩
theorem Upd.keep {h h' : Heap} {o : Obj} {b : Nat} (x : Upd h b o h') : Keep (· = b) h h' := ⟨by rw [x.size]; omega, fun k _ hn => x.old k hn⟩
theorem Keep.get {S : Nat → Prop} {h h' : Heap} (x : Keep S h h') {b : Nat} {o : Obj} (e : h[b]? = some o) (hn : ¬ S b) : h'[b]? = some o := (x.old b (lt_of_get e) hn).trans e
theorem New.got {h h' : Heap} {o p : Obj} {b k : Nat} (x : New h o b h') (e : h[k]? = some p) : h'[k]? = some p := (x.old k (lt_of_get e)).trans e
theorem Upd.got {h h' : Heap} {o p : Obj} {b k : Nat} (x : Upd h b o h') (e : h[k]? = some p) (hn : k ≠ b) : h'[k]? = some p := (x.old k hn).trans e

/-- All but the heap (and the draws) as it was. -/
structure Same (w w' : World) : Prop where
  os : w'.os = w.os
  tape : w'.tape = w.tape
  output : w'.output = w.output

theorem Same.refl (w : World) : Same w w := ⟨rfl, rfl, rfl⟩
theorem Same.trans {a b c : World} (x : Same a b) (y : Same b c) : Same a c := ⟨y.os.trans x.os, y.tape.trans x.tape, y.output.trans x.output⟩

/-! ### Types -/

structure Ty where
  desc : TypeDesc
  size : Nat
  bytes : Nat
  agg : Bool
  zero : Option Value

structure Env where
  P : Program
  tys : List (Option Ty)
  nf : Nat
  wr : Bool
  al : List Nat

def nth {α : Type} : List α → Nat → Option α
  | [], _ => none
  | x :: _, 0 => some x
  | _ :: r, n + 1 => nth r n

def Env.ty (E : Env) (t : Nat) : Option Ty := match nth E.tys t with
  | some y => y
  | none => none

def isAggD : TypeDesc → Bool
  | .struct _ | .array _ _ => true
  | _ => false

structure TyOk (P : Program) (t : Nat) (y : Ty) : Prop where
  und : P.underlying t = some y.desc
  info : ∃ i, P.info? t = some i ∧ i.size = y.size ∧ i.bytes = y.bytes ∧ i.zero = y.zero
  agg : isAggD y.desc = y.agg

def hasBody (P : Program) (f : Nat) : Prop := ∀ (args : Array Value) (w : World), (callFunc f args).run P w = .ok (.enter f args) w

structure Env.Ok (E : Env) : Prop where
  ty : ∀ t y, E.ty t = some y → TyOk E.P t y
  mixed : E.P.follows .mixedOrders = true
  fn : ∀ f, 3 ≤ f → f < E.nf → hasBody E.P f

end Go.Vc

namespace Go.Vc
variable {ds : List Deferred}

/-! ### One operation -/

def withV (m : M) (x : Operand) (k : Value → Prop) : Prop := match ev m x with
  | some v => k v
  | none => False

theorem withV_out {m : M} {x : Operand} {k : Value → Prop} (h : withV m x k) : ∃ v, ev m x = some v ∧ k v := by
  unfold withV at h
  split at h
  · exact ⟨_, by assumption, h⟩
  · exact h.elim

def withAll (m : M) : List Operand → (List Value → Prop) → Prop
  | [], k => k []
  | x :: r, k => match ev m x with
    | some v => withAll m r fun vs => k (v :: vs)
    | none => False

theorem withAll_out {m : M} : ∀ {l : List Operand} {k : List Value → Prop}, withAll m l k → ∃ vs, l.map (ev m) = vs.map some ∧ k vs
  | [], k, h => ⟨[], rfl, h⟩
  | x :: r, k, h => by
    simp only [withAll] at h
    split at h
    · rename_i v hv
      obtain ⟨vs, e, hk⟩ := withAll_out h
      exact ⟨v :: vs, by simp [hv, e], hk⟩
    · exact h.elim

theorem St.map {n : Nat} {m : M} {a : Act} (h : St ds n m a) : ∀ {l : List Operand} {vs : List Value}, l.map (Vc.ev m) = vs.map some → l.map a.eval = vs
  | [], vs, e => by cases vs with
    | nil => rfl
    | cons _ _ => simp at e
  | x :: r, vs, e => by cases vs with
    | nil => simp at e
    | cons v vs =>
      simp only [List.map_cons, List.cons.injEq] at e
      simp [h.ev e.1, St.map h e.2]

def kc : IntKind → Nat
  | .i8 => 0 | .i16 => 1 | .i32 => 2 | .i64 => 3 | .u8 => 4 | .u16 => 5 | .u32 => 6 | .u64 => 7

theorem kc_inj {k k' : IntKind} (h : Nat.beq (kc k) (kc k') = true) : k = k' := by
  cases k <;> cases k' <;> first | rfl | (exact absurd h (by decide))

def bAnd (k : IntKind) (a b : Int) : Int := k.wrap ((BitVec.ofInt k.bits a &&& BitVec.ofInt k.bits b).toNat : Int)
def bOr (k : IntKind) (a b : Int) : Int := k.wrap ((BitVec.ofInt k.bits a ||| BitVec.ofInt k.bits b).toNat : Int)
def bXor (k : IntKind) (a b : Int) : Int := k.wrap ((BitVec.ofInt k.bits a ^^^ BitVec.ofInt k.bits b).toNat : Int)
def bAndNot (k : IntKind) (a b : Int) : Int := k.wrap ((BitVec.ofInt k.bits a &&& ~~~ BitVec.ofInt k.bits b).toNat : Int)
def bShl (k : IntKind) (a b : Int) : Int := k.wrap (a * 2 ^ (min b.toNat k.bits))
def bShr (k : IntKind) (a b : Int) : Int := a.fdiv (2 ^ (min b.toNat k.bits))

/-- Two values of a type held against each other: on no memory. -/
structure EqR (P : Program) (t : TypeId) (x y : Value) (b : Bool) : Prop where
  eq : ∀ w, (Op.equal t x y).run P w = .ok b w
  guard : ∀ op ox oy w, (eqGuard op t ox oy x y).run P w = .ok () w

structure EqK (P : Program) (t : TypeId) (x y : Value) (K : Bool → Prop) : Prop where
  out : ∃ b, EqR P t x y b ∧ K b

/-- Two strings held against each other: nothing is reckoned here. -/
structure StrK (a b : ByteArray) (K : Bool → Prop) : Prop where
  out : K (a.toList == b.toList)

def addA (a : Addr) (n : Nat) : Addr := match a with
  | ⟨b, o, none⟩ => ⟨b, o + n, none⟩
  | a => a.add n

theorem addA_eq (a : Addr) (n : Nat) : a.add n = addA a n := by
  obtain ⟨b, o, s⟩ := a
  cases s with
  | none =>
    unfold Addr.add addA
    split
    · rename_i h; subst h; rfl
    · rfl
  | some x => rfl

structure GetK (cs : Array Value) (off : Nat) (K : Value → Prop) : Prop where
  out : ∃ v, cs[off]? = some v ∧ K v

def takeL : Nat → List Value → Option (List Value)
  | 0, _ => some []
  | _ + 1, [] => none
  | n + 1, x :: r => match takeL n r with
    | some s => some (x :: s)
    | none => none

def dropL : Nat → List Value → List Value
  | 0, l => l
  | _ + 1, [] => []
  | n + 1, _ :: r => dropL n r

theorem dropL_eq : ∀ (n : Nat) (l : List Value), dropL n l = l.drop n
  | 0, l => by simp [dropL]
  | n + 1, [] => by simp [dropL]
  | n + 1, x :: r => by simp [dropL, dropL_eq n r]

theorem takeL_eq : ∀ {n : Nat} {l s : List Value}, takeL n l = some s → s = l.take n ∧ n ≤ l.length
  | 0, l, s, h => by simp [takeL] at h; simp [← h]
  | n + 1, [], s, h => by simp [takeL] at h
  | n + 1, x :: r, s, h => by
    simp only [takeL] at h
    split at h
    · rename_i s' hs
      obtain ⟨e, hl⟩ := takeL_eq hs
      simp only [Option.some.injEq] at h
      subst h
      exact ⟨by simp [e], by simp; omega⟩
    · cases h

def part (E : Env) (t : Nat) (cs : Array Value) (off : Nat) (K : Value → Prop) : Prop := match E.ty t with
  | some y => match y.agg with
    | true => match y.size with
      | 0 => False
      | k + 1 => match takeL (k + 1) (dropL off cs.toList) with
        | some s => K (.agg s.toArray)
        | none => False
    | false => GetK cs off K
  | none => False

/-- A number that is cut down to its kind: a stop of its own, where these are asked for. -/
structure WrapK (k : IntKind) (n : Int) (K : Value → Prop) : Prop where
  out : K (.int k (k.wrap n))

def wrapK (wr : Bool) (k : IntKind) (n : Int) (K : Value → Prop) : Prop := match wr with
  | true => WrapK k n K
  | false => K (.int k (k.wrap n))

theorem wrapK_out {wr : Bool} {k : IntKind} {n : Int} {K : Value → Prop} (h : wrapK wr k n K) : K (.int k (k.wrap n)) := by
  cases wr with
  | true => exact h.out
  | false => exact h

def vcIntBin (wr : Bool) (op : BinOp) (k : IntKind) (a b : Int) (K : Value → Prop) : Prop := match op with
  | .add => wrapK wr k (a + b) K
  | .sub => wrapK wr k (a - b) K
  | .mul => wrapK wr k (a * b) K
  | .quo => cnd (!(decide (b = 0))) (wrapK wr k (a.tdiv b) K)
  | .rem => cnd (!(decide (b = 0))) (K (.int k (a.tmod b)))
  | .and => K (.int k (bAnd k a b))
  | .or => K (.int k (bOr k a b))
  | .xor => K (.int k (bXor k a b))
  | .andNot => K (.int k (bAndNot k a b))
  | .eql => K (.bool (a == b))
  | .neq => K (.bool (a != b))
  | .lss => K (.bool (decide (a < b)))
  | .leq => K (.bool (decide (a ≤ b)))
  | .gtr => K (.bool (decide (a > b)))
  | .geq => K (.bool (decide (a ≥ b)))
  | _ => False

def vcBin (E : Env) (op : BinOp) (t : Nat) (x y : Value) (K : Value → Prop) : Prop := match x, y with
  | .int k a, .int k' b => match op with
    | .shl => cnd (decide (0 ≤ b)) (K (.int k (bShl k a b)))
    | .shr => cnd (decide (0 ≤ b)) (K (.int k (bShr k a b)))
    | op => match Nat.beq (kc k) (kc k') with
      | true => vcIntBin E.wr op k a b K
      | false => False
  | .string a, .string b => match op with
    | .eql => StrK a b fun t => K (.bool t)
    | .neq => StrK a b fun t => K (.bool (!t))
    | .add => cnd (Nat.ble (a.size + b.size) 9223372036854775807) (K (.string (a ++ b)))
    | _ => False
  | .bool a, .bool b => match E.ty t with
    | some y => match y.desc with
      | .bool => match op with
        | .eql => K (.bool (a == b))
        | .neq => K (.bool (!(a == b)))
        | _ => False
      | _ => False
    | none => False
  | .float _ _, _ => False
  | _, .float _ _ => False
  | .complex _ _ _, _ => False
  | _, .complex _ _ _ => False
  | x, y => match op with
    | .eql => EqK E.P t x y fun b => K (.bool b)
    | .neq => EqK E.P t x y fun b => K (.bool (!b))
    | _ => False

theorem vcIntBin_ok {wr : Bool} {op : BinOp} {k : IntKind} {a b : Int} {K : Value → Prop} (h : vcIntBin wr op k a b K) :
    ∃ v, K v ∧ ∀ P w, (match op with
      | .add | .sub | .mul => Op.intArith op k a b
      | .quo | .rem => Op.intDiv op k a b
      | .and | .or | .xor | .andNot => Op.intBits op k a b
      | _ => Op.intCmp op a b).run P w = .ok v w := by
  cases op <;> simp only [vcIntBin] at h <;>
    first
    | exact h.elim
    | exact ⟨_, h, fun _ _ => rfl⟩
    | exact ⟨_, wrapK_out h, fun _ _ => rfl⟩
    | (obtain ⟨hb, hk⟩ := cnd_out h
       have hb' : b ≠ 0 := by simpa using hb
       first
       | exact ⟨_, hk, fun _ _ => by simp [Op.intDiv, hb']⟩
       | exact ⟨_, wrapK_out hk, fun _ _ => by simp [Op.intDiv, hb']⟩)

theorem vcBin_ok {E : Env} (hE : E.Ok) {op : BinOp} {t : Nat} {x y : Value} {K : Value → Prop} (h : vcBin E op t x y K) :
    ∃ v, K v ∧ ∀ ox oy w, (do eqGuard op t ox oy x y; binOp op t x y : Sem Value).run E.P w = .ok v w := by
  unfold vcBin at h
  split at h
  · rename_i k a k' b
    have hg : ∀ ox oy w, (eqGuard op t ox oy (.int k a) (.int k' b)).run E.P w = .ok () w := by
      intro ox oy w
      cases op <;> simp [eqGuard]
    split at h
    · obtain ⟨hb, hk⟩ := cnd_out h
      have hb' : ¬ b < 0 := by simpa using hb
      exact ⟨_, hk, fun ox oy w => by simp [hg, binOp, Op.shift, hb', bShl]⟩
    · obtain ⟨hb, hk⟩ := cnd_out h
      have hb' : ¬ b < 0 := by simpa using hb
      exact ⟨_, hk, fun ox oy w => by simp [hg, binOp, Op.shift, hb', bShr]⟩
    · rename_i op h1 h2
      split at h
      · rename_i hk
        cases kc_inj hk
        obtain ⟨v, hv, hr⟩ := vcIntBin_ok h
        refine ⟨v, hv, fun ox oy w => ?_⟩
        have := hr E.P w
        cases op <;> first
          | exact absurd rfl h1
          | exact absurd rfl h2
          | (simp only [Sem.run_bind, hg, Result.andThen_ok, binOp, ne_eq, not_true_eq_false, if_false]; exact this)
      · exact h.elim
  · rename_i a b
    have hg : ∀ ox oy w, (eqGuard op t ox oy (.string a) (.string b)).run E.P w = .ok () w := by
      intro ox oy w
      cases op <;> simp [eqGuard]
    split at h
    · exact ⟨_, h.out, fun ox oy w => by simp [hg, binOp, Op.stringOp]⟩
    · exact ⟨_, h.out, fun ox oy w => by simp [hg, binOp, Op.stringOp]⟩
    · obtain ⟨hb, hk⟩ := cnd_out h
      have hb' : a.size + b.size ≤ 9223372036854775807 := Nat.le_of_ble_eq_true hb
      have hb2 : ¬ (((a.size + b.size : Nat) : Int) > IntKind.i64.max) := by
        show ¬ (((a.size + b.size : Nat) : Int) > 9223372036854775807)
        omega
      refine ⟨_, hk, fun ox oy w => ?_⟩
      simp only [Sem.run_bind, hg, Result.andThen_ok, binOp, Op.stringOp]
      rw [if_neg hb2]
      rfl
    · exact h.elim
  · rename_i a b
    have hg : ∀ ox oy w, (eqGuard op t ox oy (.bool a) (.bool b)).run E.P w = .ok () w := by
      intro ox oy w
      cases op <;> simp [eqGuard]
    have hq : ∀ (y : Ty), E.ty t = some y → y.desc = .bool → ∀ w, (Op.equal t (.bool a) (.bool b)).run E.P w = .ok (a == b) w := by
      intro y hy hd w
      have : ∀ d, (Op.equalIn (d + 1) t (.bool a) (.bool b)).run E.P w = .ok (a == b) w := by
        intro d
        simp [Op.equalIn, underlying, (hE.ty t y hy).und, hd]
      exact this 9999
    split at h
    · rename_i y hy
      split at h
      · rename_i hd
        split at h
        · exact ⟨_, h, fun ox oy w => by simp [hg, binOp, hq y hy hd]⟩
        · exact ⟨_, h, fun ox oy w => by simp [hg, binOp, hq y hy hd]⟩
        · exact h.elim
      · exact h.elim
    · exact h.elim
  · exact h.elim
  · exact h.elim
  · exact h.elim
  · exact h.elim
  · rename_i h1 h2 h3 h4 h5 h6 h7
    split at h
    · obtain ⟨b, he, hk⟩ := h.out
      refine ⟨_, hk, fun ox oy w => ?_⟩
      have e2 : binOp .eql t x y = (do pure (.bool (← Op.equal t x y))) := by
        cases x <;> cases y <;> first | rfl | (exfalso; exact h5 _ _ _ _ rfl rfl) | (exfalso; simp_all; done)
      simp [he.guard, e2, he.eq]
    · obtain ⟨b, he, hk⟩ := h.out
      refine ⟨_, hk, fun ox oy w => ?_⟩
      have e2 : binOp .neq t x y = (do pure (.bool (!(← Op.equal t x y)))) := by
        cases x <;> cases y <;> first | rfl | (exfalso; exact h5 _ _ _ _ rfl rfl) | (exfalso; simp_all; done)
      simp [he.guard, e2, he.eq]
    · exact h.elim

end Go.Vc

namespace Go.Vc
variable {ds : List Deferred}

def max2 (x y : Value) (K : Value → Prop) : Prop := match x, y with
  | .int k a, .int _ b => K (.int k (if b > a then b else a))
  | _, _ => False
def min2 (x y : Value) (K : Value → Prop) : Prop := match x, y with
  | .int k a, .int _ b => K (.int k (if b < a then b else a))
  | _, _ => False
def foldK (f : Value → Value → (Value → Prop) → Prop) : Value → List Value → (Value → Prop) → Prop
  | x, [], K => K x
  | x, y :: r, K => f x y fun z => foldK f z r K

/-- A slice's parts: bounds, then the address. -/
def cutA (a : Option Addr) (l m size : Nat) : Option Addr := if m = l then a else a.map fun a => addA a (l * size)

def bnd (x : Option Value) (d : Nat) (top : Nat) (K : Nat → Prop) : Prop := match x with
  | none => K d
  | some (.int _ i) => cnd (decide (0 ≤ i) && decide (i ≤ (top : Int))) (K i.toNat)
  | some _ => False

def optV (m : M) (x : Option Operand) (K : Option Value → Prop) : Prop := match x with
  | none => K none
  | some x => withV m x fun v => K (some v)

structure FillK (place : Nat → Option (Nat × Nat)) (zero : Array Value) (parts : List (Nat × Value)) (K : Array Value → Prop) : Prop where
  out : ∃ cs, Instr.fill place zero parts = some cs ∧ K cs

def withParts (m : M) : List (Nat × Operand) → (List (Nat × Value) → Prop) → Prop
  | [], K => K []
  | (i, x) :: r, K => withV m x fun v => withParts m r fun ps => K ((i, v) :: ps)

theorem withParts_out {m : M} : ∀ {l : List (Nat × Operand)} {K : List (Nat × Value) → Prop}, withParts m l K →
    ∃ ps, l.map (fun p => (p.1, ev m p.2)) = ps.map (fun p => (p.1, some p.2)) ∧ K ps
  | [], K, h => ⟨[], rfl, h⟩
  | (i, x) :: r, K, h => by
    obtain ⟨v, hv, h⟩ := withV_out h
    obtain ⟨ps, e, hk⟩ := withParts_out h
    exact ⟨(i, v) :: ps, by simp [hv, e], hk⟩

theorem St.parts {n : Nat} {m : M} {a : Act} (h : St ds n m a) : ∀ {l : List (Nat × Operand)} {ps : List (Nat × Value)},
    l.map (fun p => (p.1, Vc.ev m p.2)) = ps.map (fun p => (p.1, some p.2)) → l.map (fun p => (p.1, a.eval p.2)) = ps
  | [], ps, e => by cases ps with
    | nil => rfl
    | cons _ _ => simp at e
  | (i, x) :: r, ps, e => by cases ps with
    | nil => simp at e
    | cons p ps =>
      obtain ⟨j, v⟩ := p
      simp only [List.map_cons, List.cons.injEq, Prod.mk.injEq] at e
      simp [e.1.1, h.ev e.1.2, St.parts h e.2]

/-- A struct's field's place: its offset, and its type's size. -/
def places (E : Env) : List Field → (List (Nat × Nat) → Prop) → Prop
  | [], K => K []
  | f :: r, K => match E.ty f.type with
    | some y => places E r fun ps => K ((f.offset, y.size) :: ps)
    | none => False

def cellsOfZero (z : Option Value) (K : Array Value → Prop) : Prop := match z with
  | some v => K v.cells
  | none => False

def vcPure (E : Env) (op : Op) (m : M) (K : Value → Prop) : Prop := match op with
  | .move x => withV m x K
  | .assign x => withV m x K
  | .pick c a b => withV m c fun v => match v with
    | .bool t => iteB t (withV m a K) (withV m b K)
    | _ => False
  | .binOp op t x y _ => withV m x fun v => withV m y fun u => vcBin E op t v u K
  | .unOp op _ x => withV m x fun v => match op, v with
    | .not, .bool b => K (.bool (!b))
    | .neg, .int k n => wrapK E.wr k (0 - n) K
    | .xor, .int k n => K (.int k (bXor k (if k.signed then -1 else k.max) n))
    | _, _ => False
  | .nilCheck x => withV m x fun v => match v with
    | .pointer (some a) => K (.pointer (some a))
    | .map r => K (.map r)
    | .slice a n c => K (.slice a n c)
    | .func (.func g) f c => K (.func (.func g) f c)
    | _ => False
  | .sliceToArrayPointer t x => withV m x fun v => match E.ty t with
    | some y => match y.desc, v with
      | .array n _, .slice (some a) l _ => cnd (Nat.ble n l) (K (.pointer (some a)))
      | _, _ => False
    | none => False
  | .fieldAddr s x f => withV m x fun v => match E.ty s, v with
    | some y, .pointer (some a) => match y.desc with
      | .struct fs => match nth fs.toList f with
        | some fl => match E.ty fl.type with
          | some z => match z.size with
            | 0 => False
            | _ + 1 => K (.pointer (some (addA a fl.offset)))
          | none => False
        | none => False
      | _ => False
    | _, _ => False
  | .field s x f => withV m x fun v => match E.ty s, v with
    | some y, .agg cs => match y.desc with
      | .struct fs => match nth fs.toList f with
        | some fl => part E fl.type cs fl.offset K
        | none => False
      | _ => False
    | _, _ => False
  | .indexAddr t x i => withV m x fun v => withV m i fun j => match E.ty t, j with
    | some y, .int _ j => match y.desc, v with
      | .array n e, .pointer (some a) => match E.ty e with
        | some z => cnd (decide (0 ≤ j) && decide (j < (n : Int))) (K (.pointer (some (addA a (j.toNat * z.size)))))
        | none => False
      | .slice e, .slice (some a) n _ => match E.ty e with
        | some z => cnd (decide (0 ≤ j) && decide (j < (n : Int))) (K (.pointer (some (addA a (j.toNat * z.size)))))
        | none => False
      | _, _ => False
    | _, _ => False
  | .index t x i => withV m x fun v => withV m i fun j => match E.ty t, j with
    | some y, .int _ j => match y.desc, v with
      | .array n e, .agg cs => match E.ty e with
        | some z => cnd (decide (0 ≤ j) && decide (j < (n : Int))) (part E e cs (j.toNat * z.size) K)
        | none => False
      | .string, .string s => cnd (decide (0 ≤ j) && decide (j < (s.size : Int))) (K (.int .u8 ((s.data[j.toNat]!).toNat)))
      | _, _ => False
    | _, _ => False
  | .build t ps => withParts m ps.toList fun ps => match E.ty t with
    | some y => cellsOfZero y.zero fun zero => match y.desc with
      | .struct fs => places E fs.toList fun pl => FillK (nth pl) zero ps fun cs => K (.agg cs)
      | .array _ e => match E.ty e with
        | some z => FillK (fun i => some (i * z.size, z.size)) zero ps fun cs => K (.agg cs)
        | none => False
      | _ => False
    | none => False
  | .extract x i => withV m x fun v => match v with
    | .tuple vs => match nth vs.toList i with
      | some v => K v
      | none => False
    | _ => False
  | .makeFunc fn f c => withAll m f.toList fun f => withAll m c.toList fun c => K (.func fn f.toArray c.toArray)
  | .slice t x lo hi mx => withV m x fun v => optV m lo fun lo => optV m hi fun hi => optV m mx fun mx => match E.ty t with
    | some y => match y.desc, v with
      | .slice e, .slice a n c => match E.ty e with
        | some z => match hi, mx with
          | none, some _ => False
          | _, _ => bnd mx c c fun m => bnd hi n m fun h => bnd lo 0 h fun l => K (.slice (cutA a l m z.size) (h - l) (m - l))
        | none => False
      | .string, .string s => match mx with
        | some _ => False
        | none => bnd hi s.size s.size fun h => bnd lo 0 h fun l => K (.string (s.extract l h))
      | .array n e, .pointer (some a) => match E.ty e with
        | some z => match hi, mx with
          | none, some _ => False
          | _, _ => bnd mx n n fun m => bnd hi n m fun h => bnd lo 0 h fun l => K (.slice (cutA (some a) l m z.size) (h - l) (m - l))
        | none => False
      | _, _ => False
    | none => False
  | .convert src dst x => withV m x fun v => match E.ty src, E.ty dst, v with
    | some _, some y, .int _ n => match y.desc with
      | .int k => wrapK E.wr k n K
      | _ => False
    | some _, some y, .string s => match y.desc with
      | .string => K (.string s)
      | _ => False
    | _, _, _ => False
  | .call c => match c.callee with
    | .builtin b => withAll m c.args.toList fun vs => match b, vs with
      | .len, [x] => match nth c.argTypes.toList 0 with
        | some t => match E.ty t with
          | some y => match y.desc, x with
            | .string, .string s => K (.int .i64 s.size)
            | .slice _, .slice _ n _ => K (.int .i64 n)
            | .array n _, _ => K (.int .i64 n)
            | _, _ => False
          | none => False
        | none => False
      | .cap, [x] => match nth c.argTypes.toList 0 with
        | some t => match E.ty t with
          | some y => match y.desc, x with
            | .slice _, .slice _ _ n => K (.int .i64 n)
            | _, _ => False
          | none => False
        | none => False
      | .max, x :: r => foldK max2 x r K
      | .min, x :: r => foldK min2 x r K
      | _, _ => False
    | _ => False
  | _ => False

end Go.Vc

namespace Go.Vc
variable {ds : List Deferred}

theorem nth_toList {α : Type} : ∀ (l : List α) (i : Nat), nth l i = l[i]?
  | [], _ => by simp [nth]
  | x :: r, 0 => by simp [nth]
  | x :: r, i + 1 => by simp [nth, nth_toList r i]

theorem nth_arr {α : Type} (a : Array α) (i : Nat) : nth a.toList i = a[i]? := by rw [nth_toList]; simp

section
variable {E : Env} (hE : E.Ok)
include hE

theorem Env.Ok.underlying {t : Nat} {y : Ty} (h : E.ty t = some y) (w : World) : (underlying t).run E.P w = .ok y.desc w := by
  simp [Go.underlying, (hE.ty t y h).und]

theorem Env.Ok.sizeOf {t : Nat} {y : Ty} (h : E.ty t = some y) (w : World) : (sizeOf t).run E.P w = .ok y.size w := by
  obtain ⟨i, hi, hs, _, _⟩ := (hE.ty t y h).info
  simp [Go.sizeOf, typeInfo, hi, hs]

theorem Env.Ok.zeroValue {t : Nat} {y : Ty} (h : E.ty t = some y) {z : Value} (hz : y.zero = some z) (w : World) : (zeroValue t).run E.P w = .ok z w := by
  obtain ⟨i, hi, _, _, h0⟩ := (hE.ty t y h).info
  simp [Go.zeroValue, typeInfo, hi, h0, hz]

theorem Env.Ok.isAgg {t : Nat} {y : Ty} (h : E.ty t = some y) (w : World) : (isAgg t).run E.P w = .ok y.agg w := by
  have := (hE.ty t y h).agg
  simp only [Go.isAgg, Sem.run_bind, hE.underlying h, Result.andThen_ok]
  rw [← this]
  cases y.desc <;> rfl

theorem part_ok {t : Nat} {cs : Array Value} {off : Nat} {K : Value → Prop} (h : part E t cs off K) :
    ∃ v, K v ∧ ∀ w, (Go.part t cs off).run E.P w = .ok v w := by
  unfold part at h
  split at h
  · rename_i y hy
    split at h
    · rename_i ha
      split at h
      · exact h.elim
      · rename_i k hk
        split at h
        · rename_i s hs
          rw [dropL_eq] at hs
          obtain ⟨e, hl⟩ := takeL_eq hs
          refine ⟨_, h, fun w => ?_⟩
          simp only [Go.part, Sem.run_bind, hE.isAgg hy, hE.sizeOf hy, ha, hk, Result.andThen_ok, if_true, Sem.run_pure]
          congr 2
          apply Array.toList_inj.1
          rw [e]
          simp
        · exact h.elim
    · rename_i ha
      obtain ⟨v, hv, hk⟩ := h.out
      exact ⟨v, hk, fun w => by simp [Go.part, hE.isAgg hy, ha, hv]⟩
  · exact h.elim

theorem places_ok : ∀ {fs : List Field} {K : List (Nat × Nat) → Prop}, places E fs K →
    ∃ pl, K pl ∧ ∀ w, (fs.mapM (m := Sem) fun f => do pure (f.offset, ← Go.sizeOf f.type)).run E.P w = .ok pl w
  | [], K, h => ⟨[], h, fun w => by simp⟩
  | f :: r, K, h => by
    simp only [places] at h
    split at h
    · rename_i y hy
      obtain ⟨pl, hk, hr⟩ := places_ok h
      refine ⟨(f.offset, y.size) :: pl, hk, fun w => ?_⟩
      rw [List.mapM_cons]
      simp only [Sem.run_bind, hE.sizeOf hy, Result.andThen_ok, hr, Sem.run_pure]
    · exact h.elim

end

theorem bnd_ok {P : Program} {x : Option Value} {d top : Nat} {K : Nat → Prop} (h : bnd x d top K) (code : BoundsCode) :
    ∃ n, K n ∧ (x = none → n = d) ∧ ∀ v, x = some v → ∀ w, (Instr.sliceBound v top code).run P w = .ok n w := by
  unfold bnd at h
  split at h
  · exact ⟨d, h, fun _ => rfl, fun v hv => by cases hv⟩
  · rename_i k i
    obtain ⟨hc, hk⟩ := cnd_out h
    have hc' : 0 ≤ i ∧ i ≤ (top : Int) := by simpa using hc
    refine ⟨_, hk, ?_, ?_⟩
    · intro hx; cases hx
    · intro v hv w; cases hv; simp [Instr.sliceBound, asIntOf, hc']
  · exact h.elim

theorem bounds_ok {P : Program} {isSlice : Bool} {n c : Nat} {lo hi mx : Option Value} {K : Nat → Nat → Nat → Prop}
    (hm : ¬ (hi = none ∧ mx.isSome = true))
    (hh : bnd mx c c fun m => bnd hi n m fun h => bnd lo 0 h fun l => K l h m) :
    ∃ l h' m, K l h' m ∧ ∀ w, (Instr.sliceBounds isSlice n c lo hi mx).run P w = .ok (l, h', m) w := by
  obtain ⟨m, hm1, m0, m1⟩ := bnd_ok (P := P) hh (if isSlice then .slice3Acap else .slice3Alen)
  cases mx with
  | none =>
    have e0 := m0 rfl
    clear hh m0 m1
    subst e0
    obtain ⟨u, hu, h0, h1⟩ := bnd_ok (P := P) hm1 (if isSlice then .sliceAcap else .sliceAlen)
    obtain ⟨l, hk, l0, l1⟩ := bnd_ok (P := P) hu .sliceB
    refine ⟨l, u, m, hk, fun w => ?_⟩
    clear hk hu hm1
    cases hi with
    | none =>
      have := h0 rfl
      subst this
      cases lo with
      | none => simp [Instr.sliceBounds, l0 rfl]
      | some x => simp [Instr.sliceBounds, l1 x rfl]
    | some y =>
      have := h1 y rfl
      cases lo with
      | none => simp [Instr.sliceBounds, l0 rfl, this]
      | some x => simp [Instr.sliceBounds, l1 x rfl, this]
  | some v =>
    obtain ⟨u, hu, h0, h1⟩ := bnd_ok (P := P) hm1 .slice3B
    obtain ⟨l, hk, l0, l1⟩ := bnd_ok (P := P) hu .slice3C
    refine ⟨l, u, m, hk, fun w => ?_⟩
    have e1 := m1 v rfl
    cases hi with
    | none => exact absurd ⟨rfl, rfl⟩ hm
    | some y =>
      have := h1 y rfl
      cases lo with
      | none => simp [Instr.sliceBounds, l0 rfl, this, e1]
      | some x => simp [Instr.sliceBounds, l1 x rfl, this, e1]

theorem cutA_eq (a : Option Addr) (l m size : Nat) : (if m = l then a else a.map (·.add (l * size))) = cutA a l m size := by
  unfold cutA
  split
  · rfl
  · cases a <;> simp [addA_eq]

theorem optV_out {m : M} {x : Option Operand} {K : Option Value → Prop} (h : optV m x K) {n : Nat} {a : Act} (hs : St ds n m a) : ∃ v, x.map a.eval = v ∧ K v := by
  cases x with
  | none => exact ⟨none, rfl, h⟩
  | some x => obtain ⟨v, hv, hk⟩ := withV_out h; exact ⟨some v, by simp [hs.ev hv], hk⟩

theorem fold_ok {P : Program} {f : Value → Value → (Value → Prop) → Prop} {g : Value → Value → Sem Value}
    (hf : ∀ x y K, f x y K → ∃ v, K v ∧ ∀ w, (g x y).run P w = .ok v w) : ∀ (r : List Value) (x : Value) (K : Value → Prop), foldK f x r K →
    ∃ v, K v ∧ ∀ w, (r.foldlM g x).run P w = .ok v w
  | [], x, K, h => ⟨x, h, fun w => by simp⟩
  | y :: r, x, K, h => by
    obtain ⟨z, hz, hr⟩ := hf _ _ _ h
    obtain ⟨v, hv, hr'⟩ := fold_ok hf r z K hz
    exact ⟨v, hv, fun w => by simp [List.foldlM_cons, hr, hr']⟩

theorem max2_ok {P : Program} (x y : Value) (K : Value → Prop) (h : max2 x y K) : ∃ v, K v ∧ ∀ w, (Builtin.max2 x y).run P w = .ok v w := by
  unfold max2 at h
  split at h
  · exact ⟨_, h, fun w => rfl⟩
  · exact h.elim
theorem min2_ok {P : Program} (x y : Value) (K : Value → Prop) (h : min2 x y K) : ∃ v, K v ∧ ∀ w, (Builtin.min2 x y).run P w = .ok v w := by
  unfold min2 at h
  split at h
  · exact ⟨_, h, fun w => rfl⟩
  · exact h.elim

end Go.Vc

namespace Go.Vc
variable {ds : List Deferred}

theorem mapParts (a : Act) (ps : Array (Nat × Operand)) (qs : List (Nat × Value)) (h : ps.toList.map (fun p => (p.1, a.eval p.2)) = qs) :
    (ps.map fun x => (x.1, a.eval x.2)).toList = qs := by rw [Array.toList_map]; exact h

theorem mapArr (a : Act) (l : Array Operand) (vs : List Value) (h : l.toList.map a.eval = vs) : l.map a.eval = vs.toArray := by
  apply Array.toList_inj.1
  rw [Array.toList_map, h]

section
variable {E : Env} (hE : E.Ok) {n : Nat} {m : M} {a : Act} (hs : St ds n m a)
include hE hs

theorem pure_slice {t : TypeId} {x : Operand} {lo hi mx : Option Operand} {K : Value → Prop} {o : Oper} (ho : o.op = .slice t x lo hi mx) (h : vcPure E (.slice t x lo hi mx) m K) :
    ∃ v, K v ∧ ∀ w, (execOp a.eval o).run E.P w = .ok (.value v) w := by
  simp only [vcPure] at h
  obtain ⟨v, hv, h1⟩ := withV_out h
  clear h
  obtain ⟨lo', hlo, h2⟩ := optV_out h1 hs
  clear h1
  obtain ⟨hi', hhi, h3⟩ := optV_out h2 hs
  clear h2
  obtain ⟨mx', hmx, h⟩ := optV_out h3 hs
  clear h3
  have ev := hs.ev hv
  clear hv
  split at h
  · rename_i y hy
    split at h
    · rename_i e a0 n0 c0 hd
      split at h
      · rename_i z hz
        split at h
        · exact h.elim
        · rename_i hne
          obtain ⟨l, u, mm, hk, hr⟩ := bounds_ok (P := E.P) (isSlice := true) (by rintro ⟨rfl, hm⟩; cases mx' with
            | none => simp at hm
            | some q => exact hne _ rfl rfl) h
          refine ⟨_, hk, fun w => ?_⟩
          simp [execOp, ho, ev, hlo, hhi, hmx, Instr.sliceAt, hE.underlying hy, hd, Instr.slice, hr, hE.sizeOf hz, ← cutA_eq]
      · exact h.elim
    · rename_i s hd
      split at h
      · exact h.elim
      · obtain ⟨u, h, h0, h1⟩ := bnd_ok (P := E.P) h .sliceAlen
        obtain ⟨l, hk, l0, l1⟩ := bnd_ok (P := E.P) h .sliceB
        refine ⟨_, hk, fun w => ?_⟩
        cases hi' with
        | none =>
          have := h0 rfl
          subst this
          cases lo' with
          | none => simp [execOp, ho, ev, hlo, hhi, hmx, Instr.sliceAt, hE.underlying hy, hd, Instr.slice, Instr.sliceBounds, l0 rfl]
          | some q => simp [execOp, ho, ev, hlo, hhi, hmx, Instr.sliceAt, hE.underlying hy, hd, Instr.slice, Instr.sliceBounds, l1 q rfl]
        | some r => cases lo' with
          | none => simp [execOp, ho, ev, hlo, hhi, hmx, Instr.sliceAt, hE.underlying hy, hd, Instr.slice, Instr.sliceBounds, h1 r rfl, l0 rfl]
          | some q => simp [execOp, ho, ev, hlo, hhi, hmx, Instr.sliceAt, hE.underlying hy, hd, Instr.slice, Instr.sliceBounds, h1 r rfl, l1 q rfl]
    · rename_i len e a0 hd
      split at h
      · rename_i z hz
        split at h
        · exact h.elim
        · rename_i hne
          obtain ⟨l, u, mm, hk, hr⟩ := bounds_ok (P := E.P) (isSlice := false) (by rintro ⟨rfl, hm⟩; cases mx' with
            | none => simp at hm
            | some q => exact hne _ rfl rfl) h
          refine ⟨_, hk, fun w => ?_⟩
          have e2 : (some (if mm = l then a0 else a0.add (l * z.size)) : Option Addr) = cutA (some a0) l mm z.size := by rw [← cutA_eq]; split <;> rfl
          simp [execOp, ho, ev, hlo, hhi, hmx, Instr.sliceAt, hE.underlying hy, hd, Instr.sureAddr, hr, hE.sizeOf hz, ← e2]
      · exact h.elim
    · exact h.elim
  · exact h.elim

theorem pure_build {t : TypeId} {ps : Array (Nat × Operand)} {K : Value → Prop} {o : Oper} (ho : o.op = .build t ps) (h : vcPure E (.build t ps) m K) :
    ∃ v, K v ∧ ∀ w, (execOp a.eval o).run E.P w = .ok (.value v) w := by
  simp only [vcPure] at h
  obtain ⟨qs, hq, h⟩ := withParts_out h
  have hq' := mapParts a ps qs (hs.parts hq)
  split at h
  · rename_i y hy
    unfold cellsOfZero at h
    split at h
    · rename_i z hz
      split at h
      · rename_i fs hd
        obtain ⟨pl, h, hr⟩ := places_ok hE h
        obtain ⟨cs, hf, hk⟩ := h.out
        refine ⟨_, hk, fun w => ?_⟩
        have hm : ∀ w, (fs.mapM (m := Sem) fun f => do pure (f.offset, ← Go.sizeOf f.type)).run E.P w = .ok pl.toArray w := by
          intro w
          have := hr w
          rw [← Array.toArray_toList (xs := fs), List.mapM_toArray]
          simp only [Sem.run_map, this, Result.andThen_ok]
        have e3 : (fun (i : Nat) => pl.toArray[i]?) = nth pl := by funext i; rw [nth_toList]; simp
        simp only [execOp, ho, Instr.build, Sem.run_bind, hE.zeroValue hy hz, Result.andThen_ok, hE.underlying hy, hd]
        simp only [hm, Result.andThen_ok, hq', e3, hf, Sem.run_pure]
      · rename_i len e hd
        split at h
        · rename_i z' hz'
          obtain ⟨cs, hf, hk⟩ := h.out
          refine ⟨_, hk, fun w => ?_⟩
          simp only [execOp, ho, Instr.build, Sem.run_bind, hE.zeroValue hy hz, Result.andThen_ok, hE.underlying hy, hd, hE.sizeOf hz', hq', hf, Sem.run_pure]
        · exact h.elim
      · exact h.elim
    · exact h.elim
  · exact h.elim

end

end Go.Vc

namespace Go.Vc
variable {ds : List Deferred}

section
variable {E : Env} (hE : E.Ok) {n : Nat} {m : M} {a : Act} (hs : St ds n m a)
include hE hs

theorem pure_call {c : Call} {K : Value → Prop} {o : Oper} (ho : o.op = .call c) (h : vcPure E (.call c) m K) :
    ∃ v, K v ∧ ∀ w, (execOp a.eval o).run E.P w = .ok (.value v) w := by
  simp only [vcPure] at h
  split at h
  · rename_i b hc
    obtain ⟨vs, hvs, h1⟩ := withAll_out h
    clear h
    have hargs := mapArr a c.args vs (hs.map hvs)
    clear hvs
    obtain ⟨cs, red⟩ : ∃ cs, ∀ w, (execOp a.eval o).run E.P w = (builtin b c.argTypes o.type cs vs.toArray).run E.P w := by
      have e : (execOp a.eval o) = (do let d ← resolve a.eval c o.type; invoke d.target d.args) := by simp only [execOp, ho]
      rw [e]
      unfold resolve
      rw [hc, hargs]
      exact ⟨_, fun w => rfl⟩
    split at h1
    · split at h1
      · rename_i t ht
        rw [nth_arr] at ht
        split at h1
        · rename_i y hy
          split at h1
          · rename_i s hd
            exact ⟨_, h1, fun w => by rw [red]; simp [builtin, Builtin.len_, ht, hE.underlying hy, hd, goInt]⟩
          · rename_i e a0 n0 c0 hd
            exact ⟨_, h1, fun w => by rw [red]; simp [builtin, Builtin.len_, ht, hE.underlying hy, hd, goInt]⟩
          · rename_i x0 n0 e0 hd
            exact ⟨_, h1, fun w => by rw [red]; simp [builtin, Builtin.len_, ht, hE.underlying hy, hd, goInt]⟩
          · exact h1.elim
        · exact h1.elim
      · exact h1.elim
    · split at h1
      · rename_i t ht
        rw [nth_arr] at ht
        split at h1
        · rename_i y hy
          split at h1
          · rename_i e a0 n0 c0 hd
            exact ⟨_, h1, fun w => by rw [red]; simp [builtin, Builtin.cap_, ht, hE.underlying hy, hd, goInt]⟩
          · exact h1.elim
        · exact h1.elim
      · exact h1.elim
    · obtain ⟨v, hv, hr⟩ := fold_ok (P := E.P) (g := Builtin.max2) max2_ok _ _ _ h1
      exact ⟨v, hv, fun w => by rw [red]; simp [builtin, Builtin.max_, hr]⟩
    · obtain ⟨v, hv, hr⟩ := fold_ok (P := E.P) (g := Builtin.min2) min2_ok _ _ _ h1
      exact ⟨v, hv, fun w => by rw [red]; simp [builtin, Builtin.min_, hr]⟩
    · exact h1.elim
  · exact h.elim

theorem pure_addr {s x f K} {o : Oper} (ho : o.op = .fieldAddr s x f) (h : vcPure E (.fieldAddr s x f) m K) :
    ∃ v, K v ∧ ∀ w, (execOp a.eval o).run E.P w = .ok (.value v) w := by
  simp only [vcPure] at h
  obtain ⟨v, hv, h1⟩ := withV_out h
  clear h
  have ev := hs.ev hv
  clear hv
  split at h1
  · rename_i y a0 hy
    split at h1
    · rename_i fs hd
      split at h1
      · rename_i fl hfl
        rw [nth_arr] at hfl
        split at h1
        · rename_i z hz
          split at h1
          · exact h1.elim
          · rename_i k hk
            refine ⟨_, h1, fun w => ?_⟩
            simp [execOp, ho, ev, Instr.fieldAt, hE.underlying hy, hd, hfl, Instr.sureAddr, fieldPlace, hE.sizeOf hz, hk, addA_eq]
        · exact h1.elim
      · exact h1.elim
    · exact h1.elim
  · exact h1.elim

theorem pure_field {s x f K} {o : Oper} (ho : o.op = .field s x f) (h : vcPure E (.field s x f) m K) :
    ∃ v, K v ∧ ∀ w, (execOp a.eval o).run E.P w = .ok (.value v) w := by
  simp only [vcPure] at h
  obtain ⟨v, hv, h1⟩ := withV_out h
  clear h
  have ev := hs.ev hv
  clear hv
  split at h1
  · rename_i y cs hy
    split at h1
    · rename_i fs hd
      split at h1
      · rename_i fl hfl
        rw [nth_arr] at hfl
        obtain ⟨v, hk, hr⟩ := part_ok hE h1
        exact ⟨v, hk, fun w => by simp [execOp, ho, ev, Instr.field, hE.underlying hy, hd, hfl, asAgg, hr]⟩
      · exact h1.elim
    · exact h1.elim
  · exact h1.elim

theorem pure_indexAddr {t x i K} {o : Oper} (ho : o.op = .indexAddr t x i) (h : vcPure E (.indexAddr t x i) m K) :
    ∃ v, K v ∧ ∀ w, (execOp a.eval o).run E.P w = .ok (.value v) w := by
  simp only [vcPure] at h
  obtain ⟨v, hv, h1⟩ := withV_out h
  clear h
  obtain ⟨j, hj, h⟩ := withV_out h1
  clear h1
  have ev := hs.ev hv
  have ej := hs.ev hj
  clear hv hj
  split at h
  · rename_i y k j hy
    split at h
    · rename_i len e a0 hd
      split at h
      · rename_i z hz
        obtain ⟨hb, hk⟩ := cnd_out h
        have hb' : 0 ≤ j ∧ j < (len : Int) := by simpa using hb
        refine ⟨_, hk, fun w => ?_⟩
        simp [execOp, ho, ev, ej, Instr.indexAt, asIntOf, hE.underlying hy, hd, Instr.sureAddr, hb', hE.sizeOf hz, addA_eq]
      · exact h.elim
    · rename_i e a0 len c0 hd
      split at h
      · rename_i z hz
        obtain ⟨hb, hk⟩ := cnd_out h
        have hb' : 0 ≤ j ∧ j < (len : Int) := by simpa using hb
        refine ⟨_, hk, fun w => ?_⟩
        simp [execOp, ho, ev, ej, Instr.indexAt, asIntOf, hE.underlying hy, hd, hb', hE.sizeOf hz, addA_eq]
      · exact h.elim
    · exact h.elim
  · exact h.elim

theorem pure_index {t x i K} {o : Oper} (ho : o.op = .index t x i) (h : vcPure E (.index t x i) m K) :
    ∃ v, K v ∧ ∀ w, (execOp a.eval o).run E.P w = .ok (.value v) w := by
  simp only [vcPure] at h
  obtain ⟨v, hv, h1⟩ := withV_out h
  clear h
  obtain ⟨j, hj, h⟩ := withV_out h1
  clear h1
  have ev := hs.ev hv
  have ej := hs.ev hj
  clear hv hj
  split at h
  · rename_i y k j hy
    split at h
    · rename_i len e cs hd
      split at h
      · rename_i z hz
        obtain ⟨hb, hk⟩ := cnd_out h
        have hb' : 0 ≤ j ∧ j < (len : Int) := by simpa using hb
        obtain ⟨v, hk, hr⟩ := part_ok hE hk
        exact ⟨v, hk, fun w => by simp [execOp, ho, ev, ej, Instr.index, asIntOf, hE.underlying hy, hd, hb', hE.sizeOf hz, hr]⟩
      · exact h.elim
    · rename_i s hd
      obtain ⟨hb, hk⟩ := cnd_out h
      have hb' : 0 ≤ j ∧ j < (s.size : Int) := by simpa using hb
      have hlt : j.toNat < s.size := by omega
      have e1 : s[j.toNat]? = some (s.data[j.toNat]!) := by
        rw [getElem?_pos s j.toNat hlt]
        have : j.toNat < s.data.size := hlt
        rw [getElem!_pos s.data j.toNat this]
        rfl
      exact ⟨_, hk, fun w => by simp only [execOp, ho, ev, ej, Instr.index, asIntOf, hE.underlying hy, hd, hb'.1, if_true, e1, Sem.run_bind, Sem.run_pure, Result.andThen_ok]⟩
    · exact h.elim
  · exact h.elim

theorem vcPure_ok {o : Oper} {op : Op} (ho : o.op = op) {K : Value → Prop} (h : vcPure E op m K) :
    ∃ v, K v ∧ ∀ w, (execOp a.eval o).run E.P w = .ok (.value v) w := by
  cases op
  case move x => obtain ⟨v, hv, hk⟩ := withV_out h; exact ⟨v, hk, fun w => by simp [execOp, ho, hs.ev hv]⟩
  case assign x => obtain ⟨v, hv, hk⟩ := withV_out h; exact ⟨v, hk, fun w => by simp [execOp, ho, hs.ev hv]⟩
  case pick c x y =>
    simp only [vcPure] at h
    obtain ⟨v, hv, h⟩ := withV_out h
    have ev := hs.ev hv
    split at h
    · rename_i t
      cases t with
      | true => obtain ⟨v, hv', hk⟩ := withV_out h; exact ⟨v, hk, fun w => by simp [execOp, ho, ev, asBool, hs.ev hv']⟩
      | false => obtain ⟨v, hv', hk⟩ := withV_out h; exact ⟨v, hk, fun w => by simp [execOp, ho, ev, asBool, hs.ev hv']⟩
    · exact h.elim
  case binOp op t x y u =>
    simp only [vcPure] at h
    obtain ⟨v, hv, h⟩ := withV_out h
    obtain ⟨u, hu, h⟩ := withV_out h
    obtain ⟨r, hk, hr⟩ := vcBin_ok hE h
    refine ⟨r, hk, fun w => ?_⟩
    have e : execOp a.eval o = (do pure (Next.value (← (do eqGuard op t x y v u; binOp op t v u : Sem Value)))) := by simp only [execOp, ho, hs.ev hv, hs.ev hu]
    rw [e, Sem.run_bind, hr]
    rfl
  case unOp op t x =>
    simp only [vcPure] at h
    obtain ⟨v, hv, h1⟩ := withV_out h
    clear h
    have ev := hs.ev hv
    clear hv
    split at h1
    · exact ⟨_, h1, fun w => by simp [execOp, ho, ev, Op.unary]⟩
    · exact ⟨_, wrapK_out h1, fun w => by simp [execOp, ho, ev, Op.unary, Op.intArith]⟩
    · exact ⟨_, h1, fun w => by simp [execOp, ho, ev, Op.unary, Op.intBits, bXor]⟩
    · exact h1.elim
  case nilCheck x =>
    simp only [vcPure] at h
    obtain ⟨v, hv, h1⟩ := withV_out h
    clear h
    have ev := hs.ev hv
    clear hv
    split at h1
    all_goals first
      | exact h1.elim
      | exact ⟨_, h1, fun w => by simp [execOp, ho, ev]⟩
  case sliceToArrayPointer t x =>
    simp only [vcPure] at h
    obtain ⟨v, hv, h1⟩ := withV_out h
    clear h
    have ev := hs.ev hv
    clear hv
    split at h1
    · rename_i y hy
      split at h1
      · rename_i n e a0 l c0 hd
        obtain ⟨hb, hk⟩ := cnd_out h1
        have hb' : ¬ l < n := by
          have : n ≤ l := by simpa [Nat.ble_eq] using hb
          omega
        exact ⟨_, hk, fun w => by simp [execOp, ho, ev, Instr.arrayAt, hE.underlying hy, hd, hb']⟩
      · exact h1.elim
    · exact h1.elim
  case fieldAddr s x f => exact pure_addr hE hs ho h
  case field s x f => exact pure_field hE hs ho h
  case indexAddr t x i => exact pure_indexAddr hE hs ho h
  case index t x i => exact pure_index hE hs ho h
  case build t ps => exact pure_build hE hs ho h
  case extract x i =>
    simp only [vcPure] at h
    obtain ⟨v, hv, h1⟩ := withV_out h
    clear h
    have ev := hs.ev hv
    clear hv
    split at h1
    · split at h1
      · rename_i v hv
        rw [nth_arr] at hv
        exact ⟨_, h1, fun w => by simp [execOp, ho, ev, Instr.extract, hv]⟩
      · exact h1.elim
    · exact h1.elim
  case makeFunc fn f c =>
    simp only [vcPure] at h
    obtain ⟨fs, hf, h⟩ := withAll_out h
    obtain ⟨cs, hc, h⟩ := withAll_out h
    exact ⟨_, h, fun w => by simp [execOp, ho, Instr.makeFunc, mapArr a f fs (hs.map hf), mapArr a c cs (hs.map hc)]⟩
  case slice t x lo hi mx => exact pure_slice hE hs ho h
  case convert src dst x =>
    simp only [vcPure] at h
    obtain ⟨v, hv, h1⟩ := withV_out h
    clear h
    have ev := hs.ev hv
    clear hv
    split at h1
    · rename_i y0 y k i hy hy'
      split at h1
      · rename_i k' hd
        refine ⟨_, wrapK_out h1, fun w => ?_⟩
        simp [execOp, ho, ev, convert, hE.underlying hy, hE.underlying hy', hd, Conv.intToInt]
      · exact h1.elim
    · rename_i y0 y s hy hy'
      split at h1
      · rename_i hd
        refine ⟨_, h1, fun w => ?_⟩
        simp [execOp, ho, ev, convert, hE.underlying hy, hE.underlying hy', hd]
      · exact h1.elim
    · exact h1.elim
  case call c => exact pure_call hE hs ho h
  all_goals exact h.elim

end

end Go.Vc

namespace Go.Vc

/-! ### Reads and effects -/

def rdCell (E : Env) (t : Nat) (c : Array Value) (o : Nat) : Option Value := match E.ty t with
  | some y => match y.agg with
    | true => if o + y.size ≤ c.size then some (.agg (c.extract o (o + y.size))) else none
    | false => c[o]?
  | none => none

structure LdK (E : Env) (t : Nat) (v : Value) (h : Heap) (K : Value → Prop) : Prop where
  out : ∃ b o c T z u, v = .pointer (some ⟨b, o, none⟩) ∧ h[b]? = some (.cells c T z) ∧ rdCell E t c o = some u ∧ K u

/-- What is read stays as it is, whatever is laid beside it. -/
structure RdK (P : Program) (s : Sem Value) (h : Heap) (K : Value → Prop) : Prop where
  out : ∃ v, (∀ w : World, Keep (fun _ => False) h w.heap → s.run P w = .ok v w) ∧ K v

structure SemK (P : Program) (s : Sem Value) (h : Heap) (K : Value → Heap → Prop) : Prop where
  out : ∀ w, w.heap = h → ∃ v w', s.run P w = .ok v w' ∧ Same w w' ∧ K v w'.heap

structure CallK (P : Program) (f : Nat) (args : Array Value) (h : Heap) (K : Value → Heap → Prop) : Prop where
  out : ∀ w, w.heap = h → Calls P f args w fun e w' => ∃ v, e = .returned v ∧ Same w w' ∧ K v w'.heap

def putCells (c : Array Value) (o : Nat) : List Value → Array Value
  | [] => c
  | v :: r => putCells (c.setIfInBounds o v) (o + 1) r

def oneCell : Value → Bool
  | .agg _ => false
  | .tuple _ => false
  | _ => true

structure StK (E : Env) (t : Nat) (a x : Value) (h : Heap) (K : Heap → Prop) : Prop where
  out : ∃ b o c T y, a = .pointer (some ⟨b, o, none⟩) ∧ h[b]? = some (.cells c T (0, 0)) ∧ E.ty t = some y ∧ x.cells.size = y.size ∧ o + y.size ≤ c.size ∧
    x.cells.toList.all oneCell = true ∧ ∀ h', Upd h b (.cells (putCells c o x.cells.toList) T (0, 0)) h' → K h'

def vcRead (E : Env) (op : Op) (ty : Nat) (m : M) (h : Heap) (K : Value → Prop) : Prop := match op with
  | .load t x => withV m x fun v => LdK E t v h K
  | .convert src dst x => withV m x fun v => RdK E.P (convert src dst v) h K
  | .lookup t x i ok => withV m x fun v => withV m i fun j => RdK E.P (Instr.lookup t v j ok) h K
  | .call c => match c.callee with
    | .builtin .len => withAll m c.args.toList fun vs => RdK E.P (Builtin.len_ c.argTypes ty vs.toArray) h K
    | _ => False
  | _ => False

def vcEff (E : Env) (op : Op) (ty : Nat) (m : M) (h : Heap) (K : Value → Heap → Prop) : Prop := match op with
  | .store t a x => withV m a fun a => withV m x fun x => StK E t a x h (K undef)
  | .alloc t => match E.ty t with
    | some y => cellsOfZero y.zero fun z => ∀ b h', New h (.cells z t) b h' → K (.pointer (some ⟨b, 0, none⟩)) h'
    | none => False
  | .box t x => withV m x fun v => ∀ b h', New h (.cells v.cells t) b h' → K (.pointer (some ⟨b, 0, none⟩)) h'
  | .buildSlice t len ps => withParts m ps.toList fun ps => match E.ty t with
    | some y => match y.desc with
      | .slice e => match E.ty e with
        | some z => cnd (Nat.ble (len * z.size) 16777216) (cellsOfZero z.zero fun zero =>
            FillK (fun i => some (i * z.size, z.size)) ((Array.range (len * z.size)).map (zero[· % zero.size]!)) ps fun cs =>
              ∀ b h', New h (.cells cs e) b h' → K (.slice (some ⟨b, 0, none⟩) len len) h')
        | none => False
      | _ => False
    | none => False
  | .makeSlice t l c => withV m l fun l => withV m c fun c => SemK E.P (Instr.makeSlice t l c) h K
  | .makeMap t r => match r with
    | none => ∀ b h', New h (.map #[] 0) b h' → K (.map (some b)) h'
    | some r => withV m r fun r => SemK E.P (Instr.makeMap t (some r)) h K
  | .mapUpdate t r k x => withV m r fun r => withV m k fun k => withV m x fun x => SemK E.P (do Instr.mapUpdate t r k x; pure undef) h K
  | .insert t r k x => withV m r fun r => withV m k fun k => withV m x fun x => SemK E.P (do Instr.mapUpdate t r k x; pure undef) h K
  | .range t x => withV m x fun v => SemK E.P (Instr.range t v) h K
  | .next x s => withV m x fun v => SemK E.P (Instr.next v s ty) h K
  | .entry x => withV m x fun v => SemK E.P (Instr.entry v) h K
  | .mapEntry t r k => withV m r fun r => withV m k fun k => SemK E.P (Instr.mapEntry t r k) h K
  | .entryStore t r k x => withV m r fun r => withV m k fun k => withV m x fun x => SemK E.P (do Instr.entryStore t r k x; pure undef) h K
  | .convert src dst x => withV m x fun v => SemK E.P (convert src dst v) h K
  | .call c => match c.callee with
    | .value f => withV m f fun f => withAll m c.args.toList fun vs => match f with
      | .func (.func g) first cap => match Nat.blt 2 g && Nat.blt g E.nf with
        | true => CallK E.P g (first ++ vs.toArray ++ cap) h K
        | false => False
      | _ => False
    | .builtin b => withAll m c.args.toList fun vs => match b with
      | .append => SemK E.P (Builtin.append_ c.argTypes ty vs.toArray) h K
      | .copy => SemK E.P (Builtin.copy_ c.argTypes ty vs.toArray) h K
      | .clear => SemK E.P (Builtin.clear_ c.argTypes ty vs.toArray) h K
      | .delete => SemK E.P (Builtin.delete_ c.argTypes ty vs.toArray) h K
      | _ => False
    | _ => False
  | _ => False

/-- 0: on no memory; 1: only reads; 2: anything. -/
def cls (E : Env) (op : Op) : Nat := match op with
  | .move _ => 0
  | .assign _ => 0
  | .pick _ _ _ => 0
  | .binOp _ _ _ _ _ => 0
  | .unOp _ _ _ => 0
  | .nilCheck _ => 0
  | .sliceToArrayPointer _ _ => 0
  | .fieldAddr _ _ _ => 0
  | .field _ _ _ => 0
  | .indexAddr _ _ _ => 0
  | .index _ _ _ => 0
  | .build _ _ => 0
  | .extract _ _ => 0
  | .makeFunc _ _ _ => 0
  | .slice _ _ _ _ _ => 0
  | .load _ _ => 1
  | .lookup _ _ _ _ => 1
  | .convert src dst _ => match E.ty src, E.ty dst with
    | some a, some b => match a.desc, b.desc with
      | .slice _, .string => 1
      | .string, .slice _ => 2
      | .slice _, .slice _ => 2
      | _, _ => 0
    | _, _ => 0
  | .call c => match c.callee with
    | .builtin .len => match nth c.argTypes.toList 0 with
      | some t => match E.ty t with
        | some y => match y.desc with
          | .map _ _ => 1
          | _ => 0
        | none => 0
      | none => 0
    | .builtin .cap => 0
    | .builtin .max => 0
    | .builtin .min => 0
    | _ => 2
  | _ => 2

def memN : List Nat → Nat → Bool
  | [], _ => false
  | x :: r, d => match Nat.beq x d with
    | true => true
    | false => memN r d

/-- 3: an effect that only lays what is new (told by where it leaves its value). -/
def clsO (E : Env) (o : Oper) : Nat := match Nat.blt 1 (cls E o.op) with
  | false => cls E o.op
  | true => match o.dst with
    | some d => match memN E.al d with
      | true => 3
      | false => 2
    | none => 2

/-- Nothing that lay there is another. -/
structure KeepK (h h' : Heap) (A : Prop) : Prop where
  keep : Keep (fun _ => False) h h'
  go : A

def vcOp (E : Env) (o : Oper) (m : M) (h : Heap) (K : Value → Heap → Prop) : Prop := match clsO E o with
  | 0 => vcPure E o.op m fun v => K v h
  | 1 => vcRead E o.op o.type m h fun v => K v h
  | 3 => vcEff E o.op o.type m h fun v h' => KeepK h h' (K v h')
  | _ => vcEff E o.op o.type m h K

/-! ### What an operation does to a frame and a heap -/

def opW (P : Program) (o : Oper) (a : Act) (w : World) (K : Act → World → Prop) : Prop := match (execOp a.eval o).run P w with
  | .ok (.value v) w' => K (a.put o.dst v) w'
  | .ok .skip w' => K (a.put o.dst undef) w'
  | .ok (.enter f args) w' => Calls P f args w' fun e w'' => ∃ v, e = .returned v ∧ K (a.put o.dst v) w''
  | _ => False

def stp (P : Program) (k : Nat) (o : Oper) (a : Act) (h : Heap) (K : Act → Heap → Prop) : Prop := match k with
  | 0 => ∃ v, (∀ w, (execOp a.eval o).run P w = .ok (.value v) w) ∧ K (a.put o.dst v) h
  | 1 => ∃ v, (∀ w : World, Keep (fun _ => False) h w.heap → (execOp a.eval o).run P w = .ok (.value v) w) ∧ K (a.put o.dst v) h
  | 3 => ∀ w, w.heap = h → opW P o a w fun a' w' => Same w w' ∧ Keep (fun _ => False) h w'.heap ∧ K a' w'.heap
  | _ => ∀ w, w.heap = h → opW P o a w fun a' w' => Same w w' ∧ K a' w'.heap

theorem opW_imp {P : Program} {o : Oper} {a : Act} {w : World} {K K' : Act → World → Prop} (hk : ∀ v w', K (a.put o.dst v) w' → K' (a.put o.dst v) w') (h : opW P o a w K) : opW P o a w K' := by
  unfold opW at *
  split at h
  · rename_i v w' e; exact hk _ _ h
  · rename_i w' e; exact hk _ _ h
  · rename_i f args w' e; exact h.mono fun e w'' ⟨v, he, hv⟩ => ⟨v, he, hk _ _ hv⟩
  · exact h.elim

theorem opW_wp {P : Program} {o : Oper} {a : Act} {w : World} {K : Act → World → Prop} {Q : Exit → Act → World → Prop} (h : opW P o a w K) : o.wp P a w K Q := by
  unfold opW at h
  unfold Oper.wp
  split at h
  · rename_i v w' e; rw [e]; exact h
  · rename_i w' e; rw [e]; exact h
  · rename_i f args w' e
    rw [e]
    exact h.mono fun e w'' ⟨v, he, hk⟩ => by subst he; exact hk
  · exact h.elim

theorem stp_opW {P : Program} {k : Nat} {o : Oper} {a : Act} {h : Heap} {K : Act → Heap → Prop} (hh : stp P k o a h K) (w : World) (hw : w.heap = h) :
    opW P o a w fun a' w' => Same w w' ∧ K a' w'.heap := by
  unfold stp at hh
  split at hh
  · obtain ⟨v, hr, hk⟩ := hh
    unfold opW
    rw [hr w]
    exact ⟨Same.refl _, by simpa [hw] using hk⟩
  · obtain ⟨v, hr, hk⟩ := hh
    unfold opW
    rw [hr w (by rw [hw]; exact Keep.refl _ _)]
    exact ⟨Same.refl _, by simpa [hw] using hk⟩
  · exact opW_imp (fun v w' x => ⟨x.1, x.2.2⟩) (hh w hw)
  · exact hh w hw

theorem fill_world (h : Heap) : ∃ w : World, w.heap = h := ⟨{ (default : World) with heap := h }, rfl⟩

/-! ### What lies in memory -/

theorem cell_of {w : World} {b o : Nat} {c : Array Value} {T : TypeId} {z : Nat × Nat} (e : w.heap[b]? = some (.cells c T z)) : w.cell? ⟨b, o, none⟩ = c[o]? := by
  simp [World.cell?, e]

theorem loadCellsFrom_ok {P : Program} {w : World} {b o : Nat} {c : Array Value} {T : TypeId} {z : Nat × Nat} (e : w.heap[b]? = some (.cells c T z)) :
    ∀ (n i : Nat) (acc : Array Value), o + i + n ≤ c.size → (loadCellsFrom ⟨b, o, none⟩ i n acc).run P w = .ok (acc ++ c.extract (o + i) (o + i + n)) w
  | 0, i, acc, _ => by simp [loadCellsFrom]; omega
  | n + 1, i, acc, hn => by
    have ha : (⟨b, o, none⟩ : Addr).add i = ⟨b, o + i, none⟩ := by unfold Addr.add; split <;> simp_all
    have hc : w.cell? ⟨b, o + i, none⟩ = some c[o + i] := by rw [cell_of e]; exact Array.getElem?_eq_getElem (by omega)
    simp only [loadCellsFrom, ha, Sem.run_bind, run_load, hc, Result.andThen_ok]
    rw [loadCellsFrom_ok e n (i + 1) _ (by omega)]
    congr 1
    apply Array.ext_getElem?
    intro k
    simp only [Array.getElem?_append, Array.getElem?_push, Array.size_push, Array.getElem?_extract]
    grind

theorem loadCells_ok {P : Program} {w : World} {b o : Nat} {c : Array Value} {T : TypeId} {z : Nat × Nat} (e : w.heap[b]? = some (.cells c T z)) (n : Nat) (hn : o + n ≤ c.size) :
    (loadCells ⟨b, o, none⟩ n).run P w = .ok (c.extract o (o + n)) w := by
  unfold loadCells
  rw [loadCellsFrom_ok e n 0 #[] (by omega)]
  simp

theorem storeCells_ok {P : Program} {b o : Nat} {T : TypeId} : ∀ (vs : List Value) (i : Nat) (c : Array Value) (w : World), w.heap[b]? = some (.cells c T (0, 0)) →
    o + i + vs.length ≤ c.size → vs.all oneCell = true →
    ∃ w', (storeCells ⟨b, o, none⟩ vs i).run P w = .ok () w' ∧ Same w w' ∧ Upd w.heap b (.cells (putCells c (o + i) vs) T (0, 0)) w'.heap
  | [], i, c, w, e, _, _ => ⟨w, by simp [storeCells], Same.refl _, ⟨rfl, e, fun _ _ => rfl⟩⟩
  | v :: r, i, c, w, e, hn, h1 => by
    simp only [List.length_cons] at hn
    simp only [List.all_cons, Bool.and_eq_true] at h1
    have ha : (⟨b, o, none⟩ : Addr).add i = ⟨b, o + i, none⟩ := by unfold Addr.add; split <;> simp_all
    have hc : w.cell? ⟨b, o + i, none⟩ = some c[o + i] := by rw [cell_of e]; exact Array.getElem?_eq_getElem (by omega)
    have hf : w.frozen? ⟨b, o + i, none⟩ = false := by simp [World.frozen?, e]
    have hv : v.oneCell' = true := by cases v <;> simp_all [Value.oneCell', oneCell]
    have e1 : (w.setCell ⟨b, o + i, none⟩ v).heap[b]? = some (.cells (c.setIfInBounds (o + i) v) T (0, 0)) := by
      simp [World.setCell, Array.getElem?_modify, e]
    obtain ⟨w', hr, hsm, hu⟩ := storeCells_ok (P := P) (o := o) r (i + 1) (c.setIfInBounds (o + i) v) _ e1 (by simp; omega) h1.2
    refine ⟨w', ?_, ⟨hsm.os, hsm.tape, hsm.output⟩, ?_, ?_, ?_⟩
    · simp only [storeCells, ha, Sem.run_bind, run_store _ _ _ _ _ hv, hc, hf, Result.andThen_ok, Bool.false_eq_true, if_false]
      exact hr
    · rw [hu.size]; simp [World.setCell]
    · rw [hu.get]; rfl
    · intro k hk
      rw [hu.old k hk]
      simp only [World.setCell, Array.getElem?_modify]
      rw [if_neg (by omega)]

end Go.Vc

namespace Go.Vc
variable {ds : List Deferred}

theorem heap_eq {w : World} {h : Heap} {b : Nat} {o : Obj} (hw : w.heap = h) (e : h[b]? = some o) : w.heap[b]? = some o := by rw [hw]; exact e

section
variable {E : Env} (hE : E.Ok)
include hE

theorem ld_ok {t : Nat} {v : Value} {h : Heap} {K : Value → Prop} (hh : LdK E t v h K) :
    ∃ u, K u ∧ ∀ w : World, Keep (fun _ => False) h w.heap → (Instr.loadAt t v).run E.P w = .ok u w := by
  obtain ⟨b, o, c, T, z, u, rfl, hb, hr, hk⟩ := hh.out
  refine ⟨u, hk, fun w hw => ?_⟩
  have e := hw.get hb (fun f => f)
  unfold rdCell at hr
  split at hr
  · rename_i y hy
    split at hr
    · rename_i ha
      split at hr
      · rename_i hle
        simp only [Option.some.injEq] at hr
        subst hr
        simp [Instr.loadAt, Instr.sureAddr, loadVar, hE.isAgg hy, ha, hE.sizeOf hy, loadCells_ok e y.size hle]
      · cases hr
    · rename_i ha
      simp [Instr.loadAt, Instr.sureAddr, loadVar, hE.isAgg hy, ha, cell_of e, hr]
  · cases hr

theorem st_ok {t : Nat} {a x : Value} {h : Heap} {K : Heap → Prop} (hh : StK E t a x h K) :
    ∀ w, w.heap = h → ∃ w', (Instr.storeAt t a x).run E.P w = .ok () w' ∧ Same w w' ∧ K w'.heap := by
  obtain ⟨b, o, c, T, y, rfl, hb, hy, hs, hle, h1, hk⟩ := hh.out
  intro w hw
  have e := heap_eq hw hb
  obtain ⟨w', hr, hsm, hu⟩ := storeCells_ok (P := E.P) (o := o) x.cells.toList 0 c w e (by simp [hs]; omega) h1
  refine ⟨w', ?_, hsm, hk _ ?_⟩
  · simp [Instr.storeAt, Instr.sureAddr, storeVar, hE.sizeOf hy, hs, hr]
  · rw [← hw]; exact hu

end

section
variable {E : Env} (hE : E.Ok) {n : Nat} {m : M} {a : Act} (hs : St ds n m a)
include hE hs

theorem vcRead_ok {o : Oper} {op : Op} (ho : o.op = op) {h : Heap} {K : Value → Prop} (hh : vcRead E op o.type m h K) :
    ∃ v, K v ∧ ∀ w : World, Keep (fun _ => False) h w.heap → (execOp a.eval o).run E.P w = .ok (.value v) w := by
  cases op
  case load t x =>
    obtain ⟨v, hv, h1⟩ := withV_out hh
    obtain ⟨u, hk, hr⟩ := ld_ok hE h1
    exact ⟨u, hk, fun w hw => by simp [execOp, ho, hs.ev hv, hr w hw]⟩
  case convert src dst x =>
    obtain ⟨v, hv, h1⟩ := withV_out hh
    obtain ⟨u, hr, hk⟩ := h1.out
    exact ⟨u, hk, fun w hw => by simp [execOp, ho, hs.ev hv, hr w hw]⟩
  case lookup t x i ok =>
    obtain ⟨v, hv, h1⟩ := withV_out hh
    obtain ⟨j, hj, h2⟩ := withV_out h1
    obtain ⟨u, hr, hk⟩ := h2.out
    exact ⟨u, hk, fun w hw => by simp [execOp, ho, hs.ev hv, hs.ev hj, hr w hw]⟩
  case call c =>
    simp only [vcRead] at hh
    split at hh
    · rename_i hc
      obtain ⟨vs, hvs, h1⟩ := withAll_out hh
      obtain ⟨u, hr, hk⟩ := h1.out
      refine ⟨u, hk, fun w hw => ?_⟩
      have e : (execOp a.eval o) = (do let d ← resolve a.eval c o.type; invoke d.target d.args) := by simp only [execOp, ho]
      rw [e]
      unfold resolve
      rw [hc, mapArr a c.args vs (hs.map hvs)]
      simp [invoke, builtin, hr w hw]
    · exact hh.elim
  all_goals exact hh.elim

theorem call_ok {o : Oper} {c : Call} (ho : o.op = .call c) {h : Heap} {K : Value → Heap → Prop} (hh : vcEff E (.call c) o.type m h K) {K' : Act → Heap → Prop}
    (hK : ∀ v h', K v h' → K' (a.put o.dst v) h') : ∀ w, w.heap = h → opW E.P o a w fun a' w' => Same w w' ∧ K' a' w'.heap := by
  intro w hw
  simp only [vcEff] at hh
  have e : (execOp a.eval o) = (do let d ← resolve a.eval c o.type; invoke d.target d.args) := by simp only [execOp, ho]
  split at hh
  · rename_i f hc
    obtain ⟨fv, hf, h1⟩ := withV_out hh
    obtain ⟨vs, hvs, h2⟩ := withAll_out h1
    clear hh h1
    have ef := hs.ev hf
    clear hf
    split at h2
    · rename_i g first cap
      split at h2
      · rename_i hg
        have hg' : 2 < g ∧ g < E.nf := by simpa [Nat.blt_eq] using hg
        unfold opW
        rw [e]
        unfold resolve
        rw [hc, mapArr a c.args vs (hs.map hvs)]
        simp only [ef, Deferred.ofValue, Sem.run_bind, Sem.run_pure, Result.andThen_ok, invoke, hE.fn g hg'.1 hg'.2 _ w]
        exact (h2.out w hw).mono fun e' w'' ⟨v, he, hsm, hk⟩ => ⟨v, he, hsm, hK _ _ hk⟩
      · exact h2.elim
    · exact h2.elim
  · rename_i b hc
    obtain ⟨vs, hvs, h1⟩ := withAll_out hh
    clear hh
    have red : ∃ cs, ∀ w, (execOp a.eval o).run E.P w = (builtin b c.argTypes o.type cs vs.toArray).run E.P w := by
      rw [e]
      unfold resolve
      rw [hc, mapArr a c.args vs (hs.map hvs)]
      exact ⟨_, fun w => rfl⟩
    obtain ⟨cs, red⟩ := red
    unfold opW
    rw [red]
    split at h1
    all_goals first
      | exact h1.elim
      | (obtain ⟨v, w', hr, hsm, hk⟩ := h1.out w hw
         simp only [builtin, Sem.run_bind, hr, Result.andThen_ok, Sem.run_pure]
         exact ⟨hsm, hK _ _ hk⟩)
  · exact hh.elim

omit hE hs in
theorem sem_ok {o : Oper} {s : Sem Value} (he : execOp a.eval o = (do pure (Next.value (← s)))) {h : Heap} {K : Value → Heap → Prop} (hh : SemK E.P s h K) {K' : Act → Heap → Prop}
    (hK : ∀ v h', K v h' → K' (a.put o.dst v) h') : ∀ w, w.heap = h → opW E.P o a w fun a' w' => Same w w' ∧ K' a' w'.heap := by
  intro w hw
  obtain ⟨v, w', hr, hsm, hk⟩ := hh.out w hw
  unfold opW
  rw [he]
  simp only [Sem.run_bind, hr, Result.andThen_ok, Sem.run_pure]
  exact ⟨hsm, hK _ _ hk⟩

theorem vcEff_ok {o : Oper} {op : Op} (ho : o.op = op) {h : Heap} {K : Value → Heap → Prop} (hh : vcEff E op o.type m h K) {K' : Act → Heap → Prop}
    (hK : ∀ v h', K v h' → K' (a.put o.dst v) h') : ∀ w, w.heap = h → opW E.P o a w fun a' w' => Same w w' ∧ K' a' w'.heap := by
  have new1 : ∀ (w : World), w.heap = h → ∀ (ob : Obj), New h ob h.size (w.heap.push ob) := by
    intro w hw ob; subst hw; exact New.push _ _
  cases op
  case store t x y =>
    obtain ⟨v, hv, h1⟩ := withV_out hh
    obtain ⟨u, hu, h2⟩ := withV_out h1
    intro w hw
    obtain ⟨w', hr, hsm, hk⟩ := st_ok hE h2 w hw
    have hr' : (execOp a.eval o).run E.P w = .ok .skip w' := by simp [execOp, ho, hs.ev hv, hs.ev hu, hr]
    unfold opW
    rw [hr']
    exact ⟨hsm, hK _ _ hk⟩
  case alloc t =>
    simp only [vcEff] at hh
    split at hh
    · rename_i y hy
      unfold cellsOfZero at hh
      split at hh
      · rename_i z hz
        intro w hw
        have hr' : (execOp a.eval o).run E.P w = .ok (.value (.pointer (some ⟨w.heap.size, 0, none⟩))) { w with heap := w.heap.push (.cells z.cells t) } := by
          simp [execOp, ho, Instr.alloc, hE.zeroValue hy hz, newVar, newRow]
        unfold opW
        rw [hr']
        refine ⟨⟨rfl, rfl, rfl⟩, hK _ _ (hh _ _ ?_)⟩
        have := new1 w hw (.cells z.cells t)
        rw [hw] at this ⊢
        exact this
      · exact hh.elim
    · exact hh.elim
  case box t x =>
    obtain ⟨v, hv, h1⟩ := withV_out hh
    intro w hw
    have hr' : (execOp a.eval o).run E.P w = .ok (.value (.pointer (some ⟨w.heap.size, 0, none⟩))) { w with heap := w.heap.push (.cells v.cells t) } := by
      simp [execOp, ho, hs.ev hv, Instr.box, newVar, newRow]
    unfold opW
    rw [hr']
    refine ⟨⟨rfl, rfl, rfl⟩, hK _ _ (h1 _ _ ?_)⟩
    have := new1 w hw (.cells v.cells t)
    rw [hw] at this ⊢
    exact this
  case buildSlice t len ps =>
    simp only [vcEff] at hh
    obtain ⟨qs, hq, h1⟩ := withParts_out hh
    have hq' := mapParts a ps qs (hs.parts hq)
    clear hh
    split at h1
    · rename_i y hy
      split at h1
      · rename_i e hd
        split at h1
        · rename_i z hz
          obtain ⟨hb, h2⟩ := cnd_out h1
          have hb' : len * z.size ≤ 16777216 := by simpa [Nat.ble_eq] using hb
          unfold cellsOfZero at h2
          split at h2
          · rename_i zv hzv
            obtain ⟨cs, hf, hk⟩ := h2.out
            intro w hw
            have hbig : ¬ (len * z.size > 2 ^ 24) := by omega
            have hr' : (execOp a.eval o).run E.P w = .ok (.value (.slice (some ⟨w.heap.size, 0, none⟩) len len)) { w with heap := w.heap.push (.cells cs e) } := by
              have hcells : (zeroValue e).run E.P w = .ok zv w := hE.zeroValue hz hzv w
              by_cases h0 : len * z.size = 0
              · have hr0 : Array.range 0 = #[] := rfl
                rw [h0, hr0] at hf
                simp only [List.map_toArray, List.map_nil] at hf
                simp only [execOp, ho, Instr.buildSlice, Sem.run_bind, hE.underlying hy, hd, hE.sizeOf hz, Result.andThen_ok, h0, hr0, if_true, Sem.run_pure, hq', hf, newRow, List.map_toArray, List.map_nil]
                simp
              · simp only [execOp, ho, Instr.buildSlice, Sem.run_bind, hE.underlying hy, hd, hE.sizeOf hz, Result.andThen_ok, hbig, h0, if_false, Sem.run_pure, hcells, hq', hf, newRow, run_newObj]
            unfold opW
            rw [hr']
            refine ⟨⟨rfl, rfl, rfl⟩, hK _ _ (hk _ _ ?_)⟩
            have := new1 w hw (.cells cs e)
            rw [hw] at this ⊢
            exact this
          · exact h2.elim
        · exact h1.elim
      · exact h1.elim
    · exact h1.elim
  case makeSlice t l c =>
    obtain ⟨v, hv, h1⟩ := withV_out hh
    obtain ⟨u, hu, h2⟩ := withV_out h1
    exact sem_ok (by simp only [execOp, ho, hs.ev hv, hs.ev hu]) h2 hK
  case makeMap t r =>
    cases r with
    | none =>
      intro w hw
      have hr' : (execOp a.eval o).run E.P w = .ok (.value (.map (some w.heap.size))) { w with heap := w.heap.push (.map #[] 0) } := by
        simp [execOp, ho, Instr.makeMap]
      unfold opW
      rw [hr']
      refine ⟨⟨rfl, rfl, rfl⟩, hK _ _ (hh _ _ ?_)⟩
      have := new1 w hw (.map #[] 0)
      rw [hw] at this ⊢
      exact this
    | some r =>
      obtain ⟨v, hv, h1⟩ := withV_out hh
      exact sem_ok (by simp only [execOp, ho, Option.map_some, hs.ev hv]) h1 hK
  case mapUpdate t r k x =>
    obtain ⟨v, hv, h1⟩ := withV_out hh
    obtain ⟨u, hu, h2⟩ := withV_out h1
    obtain ⟨z, hz, h3⟩ := withV_out h2
    intro w hw
    obtain ⟨y, w', hr, hsm, hk⟩ := h3.out w hw
    simp only [Sem.run_bind] at hr
    cases hm : (Instr.mapUpdate t v u z).run E.P w with
    | ok x1 w1 =>
      rw [hm] at hr
      simp only [Result.andThen_ok, Sem.run_pure, Result.ok.injEq] at hr
      obtain ⟨rfl, rfl⟩ := hr
      have hr' : (execOp a.eval o).run E.P w = .ok .skip w1 := by simp [execOp, ho, hs.ev hv, hs.ev hu, hs.ev hz, hm]
      unfold opW
      rw [hr']
      exact ⟨hsm, hK _ _ hk⟩
    | halt x1 w1 => rw [hm] at hr; simp at hr
  case insert t r k x =>
    obtain ⟨v, hv, h1⟩ := withV_out hh
    obtain ⟨u, hu, h2⟩ := withV_out h1
    obtain ⟨z, hz, h3⟩ := withV_out h2
    intro w hw
    obtain ⟨y, w', hr, hsm, hk⟩ := h3.out w hw
    simp only [Sem.run_bind] at hr
    cases hm : (Instr.mapUpdate t v u z).run E.P w with
    | ok x1 w1 =>
      rw [hm] at hr
      simp only [Result.andThen_ok, Sem.run_pure, Result.ok.injEq] at hr
      obtain ⟨rfl, rfl⟩ := hr
      have hr' : (execOp a.eval o).run E.P w = .ok .skip w1 := by simp [execOp, ho, hs.ev hv, hs.ev hu, hs.ev hz, hm]
      unfold opW
      rw [hr']
      exact ⟨hsm, hK _ _ hk⟩
    | halt x1 w1 => rw [hm] at hr; simp at hr
  case range t x =>
    obtain ⟨v, hv, h1⟩ := withV_out hh
    exact sem_ok (by simp only [execOp, ho, hs.ev hv]) h1 hK
  case next x s =>
    obtain ⟨v, hv, h1⟩ := withV_out hh
    exact sem_ok (by simp only [execOp, ho, hs.ev hv]) h1 hK
  case entry x =>
    obtain ⟨v, hv, h1⟩ := withV_out hh
    exact sem_ok (by simp only [execOp, ho, hs.ev hv]) h1 hK
  case mapEntry t r k =>
    obtain ⟨v, hv, h1⟩ := withV_out hh
    obtain ⟨u, hu, h2⟩ := withV_out h1
    exact sem_ok (by simp only [execOp, ho, hs.ev hv, hs.ev hu]) h2 hK
  case entryStore t r k x =>
    obtain ⟨v, hv, h1⟩ := withV_out hh
    obtain ⟨u, hu, h2⟩ := withV_out h1
    obtain ⟨z, hz, h3⟩ := withV_out h2
    intro w hw
    obtain ⟨y, w', hr, hsm, hk⟩ := h3.out w hw
    simp only [Sem.run_bind] at hr
    cases hm : (Instr.entryStore t v u z).run E.P w with
    | ok x1 w1 =>
      rw [hm] at hr
      simp only [Result.andThen_ok, Sem.run_pure, Result.ok.injEq] at hr
      obtain ⟨rfl, rfl⟩ := hr
      have hr' : (execOp a.eval o).run E.P w = .ok .skip w1 := by simp [execOp, ho, hs.ev hv, hs.ev hu, hs.ev hz, hm]
      unfold opW
      rw [hr']
      exact ⟨hsm, hK _ _ hk⟩
    | halt x1 w1 => rw [hm] at hr; simp at hr
  case convert src dst x =>
    obtain ⟨v, hv, h1⟩ := withV_out hh
    exact sem_ok (by simp only [execOp, ho, hs.ev hv]) h1 hK
  case call c => exact call_ok hE hs ho hh hK
  all_goals exact hh.elim

theorem vcOp_ok {o : Oper} {h : Heap} {K : Value → Heap → Prop} (hh : vcOp E o m h K) {K' : Act → Heap → Prop}
    (hK : ∀ v h', K v h' → K' (a.put o.dst v) h') : stp E.P (clsO E o) o a h K' := by
  unfold vcOp at hh
  unfold stp
  split at hh
  · obtain ⟨v, hk, hr⟩ := vcPure_ok hE hs rfl hh
    exact ⟨v, hr, hK _ _ hk⟩
  · obtain ⟨v, hk, hr⟩ := vcRead_ok hE hs rfl hh
    exact ⟨v, hr, hK _ _ hk⟩
  · intro w hw
    exact vcEff_ok (K' := fun a' h' => Keep (fun _ => False) h h' ∧ K' a' h') hE hs rfl hh (fun v h' x => ⟨x.keep, hK _ _ x.go⟩) w hw
  · exact vcEff_ok hE hs rfl hh hK

end

end Go.Vc

namespace Go.Vc

/-! ### A region in whatever order: operations that commute -/

def noSel : Op → Bool
  | .select _ _ => false
  | _ => true

theorem execOp_congr {ρ ρ' : Operand → Value} {o : Oper} (hn : noSel o.op = true) (h : ∀ x ∈ o.op.operands, ρ x = ρ' x) : execOp ρ o = execOp ρ' o := by
  have hmap : ∀ (l : Array Operand), (∀ x ∈ l, ρ x = ρ' x) → l.map ρ = l.map ρ' := fun l hl => Array.map_congr_left hl
  have hopt : ∀ (l : Option Operand), (∀ x ∈ l.toArray, ρ x = ρ' x) → l.map ρ = l.map ρ' := fun l hl => by
    cases l with
    | none => rfl
    | some x => simp [hl x (by simp)]
  have hps : ∀ (ps : Array (Nat × Operand)), (∀ x ∈ (ps.toList.map (·.2)).toArray, ρ x = ρ' x) → (ps.map fun (i, x) => (i, ρ x)) = ps.map fun (i, x) => (i, ρ' x) := fun ps hl => by
    apply Array.map_congr_left
    rintro ⟨i, x⟩ hx
    have : ρ x = ρ' x := hl x (by simpa using ⟨i, hx⟩)
    simp [this]
  have hcall : ∀ c : Call, (∀ x ∈ c.operands, ρ x = ρ' x) → ∀ t, resolve ρ c t = resolve ρ' c t := fun c hc t => by
    have e1 : c.args.map ρ = c.args.map ρ' := hmap _ fun x hx => hc x (by simp [Call.operands, hx])
    unfold resolve
    rw [e1]
    cases hcal : c.callee with
    | value f => simp only; rw [hc f (by simp [Call.operands, hcal])]
    | invoke r nm => simp only; rw [hc r (by simp [Call.operands, hcal])]
    | builtin b => rfl
  unfold execOp
  cases ho : o.op
  all_goals try simp only [ho, Op.operands] at h
  case build t ps => simp only; rw [hps ps h]
  case buildSlice t l ps => simp only; rw [hps ps h]
  case makeFunc fn f c => simp only; rw [hmap f fun x hx => h x (by simp [hx]), hmap c fun x hx => h x (by simp [hx])]
  case makeMap t r => simp only; rw [hopt r h]
  case slice t x lo hi mx =>
    simp only
    rw [h x (by simp), hopt lo fun y hy => h y (by simp [hy]), hopt hi fun y hy => h y (by simp [hy]), hopt mx fun y hy => h y (by simp [hy])]
  case call c => simp only; rw [hcall c h]
  case go c => simp only; rw [hcall c h]
  case defer c => simp only; rw [hcall c h]
  case select cs bl => rw [ho] at hn; cases hn
  all_goals simp_all

end Go.Vc

namespace Go.Vc

def dstOf (ops : Array Oper) (j : Nat) : Option Nat := (ops[j]?).bind (·.dst)

def isTmp (d : Nat) : Operand → Bool
  | .tmp t => Nat.beq t d
  | _ => false

def readsB (ops : Array Oper) (o : Oper) (d : Nat) : Bool :=
  o.op.operands.any (isTmp d) || (match o.guard with
    | some (j, _) => match dstOf ops j with
      | some e => Nat.beq e d
      | none => false
    | none => false)

def sepB (ops : Array Oper) (x y : Oper) : Bool := match x.dst with
  | none => true
  | some d => !(readsB ops y d) && (match y.dst with
    | some e => !(Nat.beq e d)
    | none => true)

def commB (E : Env) (ops : Array Oper) (x y : Oper) : Bool :=
  sepB ops x y && sepB ops y x && noSel x.op && noSel y.op &&
    (Nat.beq (clsO E x) 0 || Nat.beq (clsO E y) 0 || (Nat.beq (clsO E x) 1 && (Nat.beq (clsO E y) 1 || Nat.beq (clsO E y) 3)))

theorem beq_ne {a b : Nat} (h : Nat.beq a b = false) : a ≠ b := by
  intro e
  subst e
  rw [Nat.beq_refl] at h
  cases h

theorem Act.put_none (a : Act) (v : Value) : a.put none v = a := rfl

theorem eval_put {a : Act} {d : Nat} {v : Value} {x : Operand} (h : isTmp d x = false) : (a.put (some d) v).eval x = a.eval x := by
  cases x with
  | tmp t =>
    simp only [isTmp] at h
    have := beq_ne h
    simp only [Act.put, Act.eval, Array.getD_eq_getD_getElem?, Array.getElem?_setIfInBounds]
    rw [if_neg (by omega)]
  | const u => rfl
  | global g => rfl
  | func f => rfl

theorem sep_eval {ops : Array Oper} {x y : Oper} (h : sepB ops x y = true) (hn : noSel y.op = true) (a : Act) (v : Value) : execOp (a.put x.dst v).eval y = execOp a.eval y := by
  unfold sepB at h
  cases hd : x.dst with
  | none => rfl
  | some d =>
    rw [hd] at h
    simp only [Bool.and_eq_true, Bool.not_eq_true'] at h
    have h1 := h.1
    unfold readsB at h1
    simp only [Bool.or_eq_false_iff] at h1
    refine execOp_congr hn fun z hz => eval_put ?_
    have := Array.any_eq_false'.1 h1.1 z hz
    simpa using this

theorem sep_wanted {ops : Array Oper} {x y : Oper} (h : sepB ops x y = true) (a : Act) (v : Value) :
    Region.wanted y (yielded ops (a.put x.dst v).tmps) = Region.wanted y (yielded ops a.tmps) := by
  unfold sepB at h
  cases hd : x.dst with
  | none => rfl
  | some d =>
    rw [hd] at h
    simp only [Bool.and_eq_true, Bool.not_eq_true'] at h
    have h1 := h.1
    unfold readsB at h1
    simp only [Bool.or_eq_false_iff] at h1
    unfold Region.wanted
    cases hg : y.guard with
    | none => rfl
    | some g =>
      obtain ⟨j, b⟩ := g
      have h2 := h1.2
      rw [hg] at h2
      simp only at h2 ⊢
      unfold yielded
      unfold dstOf at h2
      cases he : (ops[j]?).bind (·.dst) with
      | none => rfl
      | some e =>
        rw [he] at h2
        have := beq_ne h2
        simp only [Option.bind_some, Act.put, Array.getElem?_setIfInBounds]
        rw [if_neg (by omega)]

theorem put_comm {ops : Array Oper} {x y : Oper} (h : sepB ops x y = true) (a : Act) (v u : Value) : (a.put x.dst v).put y.dst u = (a.put y.dst u).put x.dst v := by
  unfold sepB at h
  cases hd : x.dst with
  | none => rfl
  | some d =>
    cases he : y.dst with
    | none => rfl
    | some e =>
      rw [hd, he] at h
      simp only [Bool.and_eq_true, Bool.not_eq_true'] at h
      have := beq_ne h.2
      simp only [Act.put]
      congr 1
      exact Array.setIfInBounds_comm v u (by omega)

theorem opW_mono {P : Program} {o : Oper} {a : Act} {w : World} {K K' : Act → World → Prop} (hk : ∀ v w', K (a.put o.dst v) w' → K' (a.put o.dst v) w') (h : opW P o a w K) : opW P o a w K' := by
  unfold opW at *
  split at h
  · rename_i v w' e; exact hk _ _ h
  · rename_i w' e; exact hk _ _ h
  · rename_i f args w' e; exact h.mono fun e w'' ⟨v, he, hv⟩ => ⟨v, he, hk _ _ hv⟩
  · exact h.elim

theorem stp_mono {P : Program} {k : Nat} {o : Oper} {a : Act} {h : Heap} {K K' : Act → Heap → Prop} (hk : ∀ v h', K (a.put o.dst v) h' → K' (a.put o.dst v) h') (hh : stp P k o a h K) : stp P k o a h K' := by
  unfold stp at *
  split at hh
  · obtain ⟨v, hr, h1⟩ := hh; exact ⟨v, hr, hk _ _ h1⟩
  · obtain ⟨v, hr, h1⟩ := hh; exact ⟨v, hr, hk _ _ h1⟩
  · exact fun w hw => opW_mono (fun v w' h => ⟨h.1, h.2.1, hk v w'.heap h.2.2⟩) (hh w hw)
  · exact fun w hw => opW_mono (fun v w' h => ⟨h.1, hk v w'.heap h.2⟩) (hh w hw)

theorem opW_ex {P : Program} {o : Oper} {a : Act} {w : World} {K : Act → World → Prop} (h : opW P o a w K) : ∃ v w', K (a.put o.dst v) w' := by
  unfold opW at h
  split at h
  · exact ⟨_, _, h⟩
  · exact ⟨_, _, h⟩
  · obtain ⟨e, w', fr, ⟨v, _, hk⟩, _⟩ := h []
    exact ⟨v, w', hk⟩
  · exact h.elim

theorem stp_ex {P : Program} {k : Nat} {o : Oper} {a : Act} {h : Heap} {K : Act → Heap → Prop} (hh : stp P k o a h K) : ∃ v h', K (a.put o.dst v) h' := by
  unfold stp at hh
  split at hh
  · obtain ⟨v, hr, h1⟩ := hh; exact ⟨v, _, h1⟩
  · obtain ⟨v, hr, h1⟩ := hh; exact ⟨v, _, h1⟩
  · obtain ⟨w, hw⟩ := fill_world h
    obtain ⟨v, w', hk⟩ := opW_ex (hh w hw)
    exact ⟨v, _, hk.2.2⟩
  · obtain ⟨w, hw⟩ := fill_world h
    obtain ⟨v, w', hk⟩ := opW_ex (hh w hw)
    exact ⟨v, _, hk.2⟩

theorem opW_eq {P : Program} {o : Oper} {a a' : Act} {w : World} {K K' : Act → World → Prop} (he : execOp a.eval o = execOp a'.eval o)
    (hk : ∀ v w', K (a.put o.dst v) w' → K' (a'.put o.dst v) w') (h : opW P o a w K) : opW P o a' w K' := by
  unfold opW at *
  rw [← he]
  split at h
  · rename_i v w' e; exact hk _ _ h
  · rename_i w' e; exact hk _ _ h
  · rename_i f args w' e; exact h.mono fun e w'' ⟨v, he, hv⟩ => ⟨v, he, hk _ _ hv⟩
  · exact h.elim

theorem stp_eq {P : Program} {k : Nat} {o : Oper} {a a' : Act} {h : Heap} {K K' : Act → Heap → Prop} (he : execOp a.eval o = execOp a'.eval o)
    (hk : ∀ v h', K (a.put o.dst v) h' → K' (a'.put o.dst v) h') (hh : stp P k o a h K) : stp P k o a' h K' := by
  unfold stp at *
  split at hh
  · obtain ⟨v, hr, h1⟩ := hh; exact ⟨v, by rw [← he]; exact hr, hk _ _ h1⟩
  · obtain ⟨v, hr, h1⟩ := hh; exact ⟨v, by rw [← he]; exact hr, hk _ _ h1⟩
  · exact fun w hw => opW_eq he (fun v w' h => ⟨h.1, h.2.1, hk v w'.heap h.2.2⟩) (hh w hw)
  · exact fun w hw => opW_eq he (fun v w' h => ⟨h.1, hk v w'.heap h.2⟩) (hh w hw)

def stepR (E : Env) (ops : Array Oper) (o : Oper) (a : Act) (h : Heap) (K : Act → Heap → Prop) : Prop :=
  if Region.wanted o (yielded ops a.tmps) = true then stp E.P (clsO E o) o a h K else K (a.put o.dst undef) h

theorem stepR_mono {E : Env} {ops : Array Oper} {o : Oper} {a : Act} {h : Heap} {K K' : Act → Heap → Prop} (hk : ∀ v h', K (a.put o.dst v) h' → K' (a.put o.dst v) h') (hh : stepR E ops o a h K) : stepR E ops o a h K' := by
  unfold stepR at *
  split at hh
  · rename_i hw; rw [if_pos hw]; exact stp_mono hk hh
  · rename_i hw; rw [if_neg hw]; exact hk _ _ hh

theorem swap {E : Env} {ops : Array Oper} {x y : Oper} (hc : commB E ops x y = true) {a : Act} {h : Heap} {K : Act → Heap → Prop}
    (hh : stepR E ops x a h fun a' h' => stepR E ops y a' h' K) : stepR E ops y a h fun a' h' => stepR E ops x a' h' K := by
  unfold commB at hc
  simp only [Bool.and_eq_true, Bool.or_eq_true] at hc
  obtain ⟨⟨⟨⟨sxy, syx⟩, nx⟩, ny⟩, hcls⟩ := hc
  have wx : ∀ v, Region.wanted x (yielded ops (a.put y.dst v).tmps) = Region.wanted x (yielded ops a.tmps) := fun v => sep_wanted syx a v
  have wy : ∀ v, Region.wanted y (yielded ops (a.put x.dst v).tmps) = Region.wanted y (yielded ops a.tmps) := fun v => sep_wanted sxy a v
  have ex : ∀ v, execOp (a.put y.dst v).eval x = execOp a.eval x := fun v => sep_eval syx nx a v
  have ey : ∀ v, execOp (a.put x.dst v).eval y = execOp a.eval y := fun v => sep_eval sxy ny a v
  have pc : ∀ v u, (a.put x.dst v).put y.dst u = (a.put y.dst u).put x.dst v := fun v u => put_comm sxy a v u
  by_cases hx : Region.wanted x (yielded ops a.tmps) = true
  · have h1 : stp E.P (clsO E x) x a h fun a' h' => stepR E ops y a' h' K := by unfold stepR at hh; rwa [if_pos hx] at hh
    clear hh
    by_cases hy : Region.wanted y (yielded ops a.tmps) = true
    · have h2 : stp E.P (clsO E x) x a h fun a' h' => stp E.P (clsO E y) y a' h' K :=
        stp_mono (fun v h' hk => by unfold stepR at hk; rwa [wy, if_pos hy] at hk) h1
      clear h1
      suffices hs : stp E.P (clsO E y) y a h fun a' h' => stp E.P (clsO E x) x a' h' K by
        unfold stepR
        rw [if_pos hy]
        exact stp_mono (fun v h' hk => by rw [wx, if_pos hx]; exact hk) hs
      have h0x : clsO E x = 0 → stp E.P (clsO E y) y a h fun a' h' => stp E.P (clsO E x) x a' h' K := by
        intro h0
        rw [h0] at h2 ⊢
        obtain ⟨v, hv, h3⟩ := h2
        refine stp_eq (K := K) (ey v) (fun u h' hk => ⟨v, ?_, ?_⟩) h3
        · rw [ex]; exact hv
        · rw [← pc]; exact hk
      have h0y : clsO E y = 0 → stp E.P (clsO E y) y a h fun a' h' => stp E.P (clsO E x) x a' h' K := by
        intro h0
        rw [h0] at h2 ⊢
        obtain ⟨u, h', v, hv, _⟩ := stp_ex h2
        have hv' : ∀ w, (execOp a.eval y).run E.P w = .ok (.value v) w := fun w => by rw [← ey u]; exact hv w
        refine ⟨v, hv', ?_⟩
        refine stp_eq (ex v).symm (fun u h' hk => ?_) h2
        obtain ⟨v', hv'', hk'⟩ := hk
        obtain ⟨w, hw⟩ := fill_world h'
        have e1 := hv'' w
        rw [ey, hv'] at e1
        simp only [Result.ok.injEq, Next.value.injEq, and_true] at e1
        subst e1
        rw [← pc]
        exact hk'
      rcases hcls with (h0 | h0) | ⟨h0, h0' | h0'⟩
      · exact h0x (Nat.eq_of_beq_eq_true h0)
      · exact h0y (Nat.eq_of_beq_eq_true h0)
      · have e1 := Nat.eq_of_beq_eq_true h0
        have e2 := Nat.eq_of_beq_eq_true h0'
        rw [e1, e2] at h2 ⊢
        obtain ⟨v, hv, u, hu, hk⟩ := h2
        refine ⟨u, fun w hw => by rw [← ey v]; exact hu w hw, v, fun w hw => by rw [ex]; exact hv w hw, ?_⟩
        rw [← pc]
        exact hk
      · have e1 := Nat.eq_of_beq_eq_true h0
        have e2 := Nat.eq_of_beq_eq_true h0'
        rw [e1, e2] at h2 ⊢
        obtain ⟨v, hv, hy2⟩ := h2
        intro w hw
        refine opW_eq (ey v) (fun u w' hk => ⟨hk.1, hk.2.1, v, fun w2 hk2 => ?_, ?_⟩) (hy2 w hw)
        · rw [ex]
          exact hv w2 (hk.2.1.trans hk2 fun _ _ f => f)
        · rw [← pc]
          exact hk.2.2
    · have h2 : stp E.P (clsO E x) x a h fun a' h' => K (a'.put y.dst undef) h' :=
        stp_mono (fun v h' hk => by unfold stepR at hk; rwa [wy, if_neg hy] at hk) h1
      unfold stepR
      rw [if_neg hy]
      show (if Region.wanted x (yielded ops (a.put y.dst undef).tmps) = true then _ else _)
      rw [wx, if_pos hx]
      exact stp_eq (ex undef).symm (fun v h' hk => by rw [← pc]; exact hk) h2
  · have h1 : stepR E ops y (a.put x.dst undef) h K := by unfold stepR at hh; rw [if_neg hx] at hh; exact hh
    clear hh
    unfold stepR at h1
    rw [wy] at h1
    by_cases hy : Region.wanted y (yielded ops a.tmps) = true
    · rw [if_pos hy] at h1
      unfold stepR
      rw [if_pos hy]
      exact stp_eq (ey undef) (fun v h' hk => by rw [wx, if_neg hx, ← pc]; exact hk) h1
    · rw [if_neg hy] at h1
      unfold stepR
      rw [if_neg hy]
      show (if Region.wanted x (yielded ops (a.put y.dst undef).tmps) = true then _ else _)
      rw [wx, if_neg hx, ← pc]
      exact h1

/-- A list of operations, one behind the other. -/
def RL (E : Env) (ops : Array Oper) (Q : Act → Heap → Prop) : List Nat → Act → Heap → Prop
  | [], a, h => Q a h
  | i :: r, a, h => match ops[i]? with
    | none => False
    | some o => stepR E ops o a h (RL E ops Q r)

theorem RL_congr {E : Env} {ops : Array Oper} {Q : Act → Heap → Prop} {S T : List Nat} (h : ∀ a h, RL E ops Q S a h → RL E ops Q T a h) :
    ∀ (A : List Nat) (a : Act) (hp : Heap), RL E ops Q (A ++ S) a hp → RL E ops Q (A ++ T) a hp
  | [], a, hp, x => h a hp x
  | i :: A, a, hp, x => by
    simp only [List.cons_append, RL] at x ⊢
    split at x
    · exact x.elim
    · rename_i o ho
      exact stepR_mono (fun v h' hk => RL_congr h A _ _ hk) x

def pairOk (E : Env) (ops : Array Oper) (i j : Nat) : Prop := ∀ x y, ops[i]? = some x → ops[j]? = some y → commB E ops x y = true

theorem RL_swap {E : Env} {ops : Array Oper} {Q : Act → Heap → Prop} {i j : Nat} {S : List Nat} (hc : pairOk E ops i j) {a : Act} {h : Heap} (hh : RL E ops Q (i :: j :: S) a h) :
    RL E ops Q (j :: i :: S) a h := by
  simp only [RL] at hh ⊢
  cases hi : ops[i]? with
  | none => rw [hi] at hh; exact hh.elim
  | some x =>
    cases hj : ops[j]? with
    | none =>
      simp only [hi, hj] at hh
      unfold stepR at hh
      split at hh
      · obtain ⟨v, h', hk⟩ := stp_ex hh; exact hk.elim
      · exact hh.elim
    | some y =>
      simp only [hi, hj] at hh ⊢
      exact swap (hc x y hi hj) hh

/-- An operation goes ahead of others with which it commutes. -/
theorem RL_front {E : Env} {ops : Array Oper} {Q : Act → Heap → Prop} {i : Nat} {B : List Nat} : ∀ (A : List Nat), (∀ k ∈ A, pairOk E ops k i) → ∀ {a : Act} {h : Heap},
    RL E ops Q (A ++ i :: B) a h → RL E ops Q (i :: (A ++ B)) a h
  | [], _, _, _, hh => hh
  | k :: A, hA, a, h, hh => by
    have h1 : RL E ops Q (k :: i :: (A ++ B)) a h :=
      RL_congr (S := A ++ i :: B) (T := i :: (A ++ B)) (fun a h x => RL_front A (fun k hk => hA k (by simp [hk])) x) [k] a h hh
    exact RL_swap (hA k (by simp)) h1

end Go.Vc

namespace Go.Vc

def bnds (e : Edge) : Bool := match e.ground with
  | .textOnly _ => false
  | .gcOnly _ => false
  | _ => true

theorem bnds_eq (e : Edge) : Region.binds .any e = bnds e := by
  unfold Region.binds bnds
  cases e.ground <;> rfl

/-- What must come ahead of each operation, as bits. -/
def edgeMask (acc : List Nat) : List Edge → Nat
  | [] => 0
  | e :: r => match bnds e with
    | true => (edgeMask acc r) ||| ((1 <<< e.on) ||| (match nth acc e.on with
      | some x => x
      | none => 0))
    | false => edgeMask acc r

/-- A number is reckoned before it goes on. -/
def forced {α : Type} (n : Nat) (f : Nat → α) : α := match n with
  | 0 => f 0
  | k + 1 => f (k + 1)

theorem forced_eq {α : Type} (n : Nat) (f : Nat → α) : forced n f = f n := by cases n <;> rfl

def masks : List Oper → List Nat → List Nat
  | [], acc => acc
  | o :: r, acc => forced (edgeMask acc o.after.toList) fun x => masks r (acc ++ [x])

def edgesOk : Nat → List Oper → Bool
  | _, [] => true
  | i, o :: r => o.after.toList.all (fun e => !(bnds e) || Nat.blt e.on i) && edgesOk (i + 1) r

/-- Each pair commutes, or one must come ahead of the other. -/
def rowOk (E : Env) (ops : Array Oper) (y : Oper) (mask : Nat) : Nat → List Oper → Bool
  | _, [] => true
  | i, x :: r => (Nat.testBit mask i || commB E ops x y) && rowOk E ops y mask (i + 1) r

def pairsOk (E : Env) (ops : Array Oper) (all : List Oper) : Nat → List Oper → List Nat → Bool
  | _, [], _ => true
  | _, _ :: _, [] => false
  | j, y :: r, k :: ks => rowOk E ops y k 0 (all.take j) && pairsOk E ops all (j + 1) r ks

def drawOK (E : Env) (ops : Array Oper) : Bool :=
  edgesOk 0 ops.toList && pairsOk E ops ops.toList 0 ops.toList (masks ops.toList [])

theorem edgesOk_at : ∀ {l : List Oper} {i : Nat}, edgesOk i l = true → ∀ {j : Nat} {o : Oper}, l[j]? = some o → ∀ e ∈ o.after.toList, bnds e = true → e.on < i + j
  | [], _, _, j, o, ho => by simp at ho
  | o' :: r, i, h, 0, o, ho => by
    simp only [List.getElem?_cons_zero, Option.some.injEq] at ho
    subst ho
    simp only [edgesOk, Bool.and_eq_true] at h
    intro e he hb
    have := List.all_eq_true.1 h.1 e he
    simp only [hb, Bool.not_true, Bool.false_or, Nat.blt_eq] at this
    omega
  | o' :: r, i, h, j + 1, o, ho => by
    simp only [List.getElem?_cons_succ] at ho
    simp only [edgesOk, Bool.and_eq_true] at h
    intro e he hb
    have := edgesOk_at h.2 ho e he hb
    omega

/-- A set that holds, with an operation, all that must come ahead of it. -/
def closed (ops : Array Oper) (L : Nat → Prop) : Prop := ∀ j o, ops[j]? = some o → L j → ∀ e ∈ o.after.toList, bnds e = true → L e.on

theorem edgeMask_bit {acc : List Nat} {L : Nat → Prop} (hacc : ∀ k x, acc[k]? = some x → L k → ∀ i, Nat.testBit x i = true → L i) :
    ∀ {es : List Edge}, (∀ e ∈ es, bnds e = true → L e.on) → ∀ i, Nat.testBit (edgeMask acc es) i = true → L i
  | [], _, i, h => by simp [edgeMask] at h
  | e :: r, he, i, h => by
    simp only [edgeMask] at h
    split at h
    · rename_i hb
      rw [Nat.testBit_or, Nat.testBit_or, Bool.or_eq_true, Bool.or_eq_true] at h
      rcases h with h | h | h
      · exact edgeMask_bit hacc (fun e' h' => he e' (by simp [h'])) i h
      · have h1 := he e (by simp) hb
        rw [Nat.one_shiftLeft, Nat.testBit_two_pow] at h
        have : e.on = i := by simpa using h
        rw [← this]
        exact h1
      · split at h
        · rename_i x hx
          rw [nth_toList] at hx
          exact hacc _ x hx (he e (by simp) hb) i h
        · simp at h
    · exact edgeMask_bit hacc (fun e' h' => he e' (by simp [h'])) i h

theorem masks_at {ops : Array Oper} {L : Nat → Prop} (hL : closed ops L) : ∀ (r : List Oper) (acc : List Nat), (∀ k o, r[k]? = some o → ops[acc.length + k]? = some o) →
    (∀ k x, acc[k]? = some x → L k → ∀ i, Nat.testBit x i = true → L i) → ∀ k x, (masks r acc)[k]? = some x → L k → ∀ i, Nat.testBit x i = true → L i
  | [], acc, _, hacc => hacc
  | o :: r, acc, hops, hacc => by
    simp only [masks, forced_eq]
    refine masks_at hL r _ (fun k o' hk => ?_) (fun k x hk hLk i hi => ?_)
    · have := hops (k + 1) o' (by simpa using hk)
      simp only [List.length_append, List.length_cons, List.length_nil]
      rw [← this]
      congr 1
      omega
    · rw [List.getElem?_append] at hk
      split at hk
      · exact hacc k x hk hLk i hi
      · rename_i hlen
        have hk0 : k = acc.length := by
          rcases Nat.lt_or_ge (k - acc.length) 1 with h | h
          · omega
          · rw [List.getElem?_eq_none (by simpa using h)] at hk; cases hk
        subst hk0
        simp only [Nat.sub_self, List.getElem?_cons_zero, Option.some.injEq] at hk
        subst hk
        have ho := hops 0 o rfl
        exact edgeMask_bit hacc (fun e he hb => hL _ o (by simpa using ho) hLk e he hb) i hi

theorem rowOk_at {E : Env} {ops : Array Oper} {y : Oper} {mask : Nat} : ∀ {l : List Oper} {i : Nat}, rowOk E ops y mask i l = true → ∀ {k : Nat} {x : Oper}, l[k]? = some x →
    Nat.testBit mask (i + k) = true ∨ commB E ops x y = true
  | [], _, _, k, x, hx => by simp at hx
  | x' :: r, i, h, 0, x, hx => by
    simp only [List.getElem?_cons_zero, Option.some.injEq] at hx
    subst hx
    simp only [rowOk, Bool.and_eq_true, Bool.or_eq_true] at h
    simpa using h.1
  | x' :: r, i, h, k + 1, x, hx => by
    simp only [List.getElem?_cons_succ] at hx
    simp only [rowOk, Bool.and_eq_true] at h
    have := rowOk_at h.2 hx
    rw [show i + (k + 1) = i + 1 + k from by omega]
    exact this

theorem pairsOk_at {E : Env} {ops : Array Oper} {all : List Oper} : ∀ {l : List Oper} {ks : List Nat} {j : Nat}, pairsOk E ops all j l ks = true → ∀ {p : Nat} {y : Oper}, l[p]? = some y →
    ∃ k, ks[p]? = some k ∧ rowOk E ops y k 0 (all.take (j + p)) = true
  | [], _, _, _, p, y, hy => by simp at hy
  | _ :: _, [], _, h, _, _, _ => by simp [pairsOk] at h
  | y' :: r, k :: ks, j, h, 0, y, hy => by
    simp only [List.getElem?_cons_zero, Option.some.injEq] at hy
    subst hy
    simp only [pairsOk, Bool.and_eq_true] at h
    exact ⟨k, rfl, h.1⟩
  | y' :: r, k :: ks, j, h, p + 1, y, hy => by
    simp only [List.getElem?_cons_succ] at hy
    simp only [pairsOk, Bool.and_eq_true] at h
    obtain ⟨k', h1, h2⟩ := pairsOk_at h.2 hy
    refine ⟨k', by simpa using h1, ?_⟩
    rw [show j + (p + 1) = j + 1 + p from by omega]
    exact h2

theorem drawOK_pair {E : Env} {ops : Array Oper} (h : drawOK E ops = true) {L : Nat → Prop} (hL : closed ops L) {i j : Nat} (hij : i < j)
    (hj : ∀ o, ops[j]? = some o → ∀ e ∈ o.after.toList, bnds e = true → L e.on) (hi : ¬ L i) : pairOk E ops i j := by
  intro x y hx hy
  simp only [drawOK, Bool.and_eq_true] at h
  have hy' : ops.toList[j]? = some y := by simpa using hy
  have hx' : ops.toList[i]? = some x := by simpa using hx
  obtain ⟨k, hk, hrow⟩ := pairsOk_at h.2 hy'
  have hx2 : (ops.toList.take (0 + j))[i]? = some x := by rw [List.getElem?_take, if_pos (by omega)]; exact hx'
  rcases rowOk_at hrow hx2 with hb | hb
  · exfalso
    rw [Nat.zero_add] at hb
    -- L with j added is closed
    have hL' : closed ops fun t => L t ∨ t = j := by
      intro t o ho ht e he hb
      rcases ht with ht | ht
      · exact .inl (hL t o ho ht e he hb)
      · subst ht; exact .inl (hj o ho e he hb)
    have := masks_at hL' ops.toList [] (fun k o hk => by simpa using hk) (fun k x hk => by simp at hk) j k hk (.inr rfl) i hb
    rcases this with h1 | h1
    · exact hi h1
    · omega
  · exact hb

theorem RL_wpOp {E : Env} {ops : Array Oper} {Q : Exit → Act → World → Prop} {i : Nat} {o : Oper} (ho : ops[i]? = some o) {a : Act} {w : World} {K : Act → Heap → Prop} {K' : Act → World → Prop}
    (hh : stepR E ops o a w.heap K) (hk : ∀ a w', Same w w' → K a w'.heap → K' a w') : wpOp E.P ops Q i K' a w := by
  unfold wpOp
  simp only [ho]
  unfold stepR at hh
  split at hh
  · rename_i hw
    rw [if_pos hw]
    exact .inl (opW_wp (opW_mono (fun v w' h => hk _ _ h.1 h.2) (stp_opW hh w rfl)))
  · rename_i hw
    rw [if_neg hw]
    exact hk _ _ (Same.refl _) hh

theorem RL_wpOps {E : Env} {ops : Array Oper} {Q : Exit → Act → World → Prop} {R : Act → Heap → Prop} :
    ∀ (l : List Nat) (a : Act) (w : World), RL E ops R l a w.heap → (∀ a w', Same w w' → R a w'.heap → Q .normal a w') → wpOps E.P ops Q l a w
  | [], a, w, h, hR => hR a w (Same.refl _) h
  | i :: r, a, w, h, hR => by
    rw [wpOps_cons]
    simp only [RL] at h
    split at h
    · exact h.elim
    · rename_i o ho
      exact RL_wpOp ho h fun a w' hsm hk => RL_wpOps r a w' hk fun a2 w2 h2 => hR a2 w2 (hsm.trans h2)

end Go.Vc

namespace Go.Vc

def rest (ops : Array Oper) (listed : Array Bool) : List Nat := (List.range ops.size).filter fun i => !listed.getD i true

theorem getD_set {listed : Array Bool} {i k : Nat} (hi : i < listed.size) (d : Bool) : (listed.setIfInBounds i true).getD k d = if k = i then true else listed.getD k d := by
  simp only [Array.getD_eq_getD_getElem?, Array.getElem?_setIfInBounds]
  by_cases e : i = k
  · subst e; simp [hi]
  · rw [if_neg e, if_neg (fun h => e h.symm)]

theorem rest_set {ops : Array Oper} {listed : Array Bool} (hs : listed.size = ops.size) {i : Nat} {A B : List Nat} (hr : rest ops listed = A ++ i :: B) :
    rest ops (listed.setIfInBounds i true) = A ++ B := by
  have hmem : i ∈ rest ops listed := by rw [hr]; simp
  have hi : i < listed.size := by
    simp only [rest, List.mem_filter, List.mem_range] at hmem
    omega
  have hpw : (rest ops listed).Pairwise (· < ·) := List.Pairwise.filter _ List.pairwise_lt_range
  rw [hr, List.pairwise_append] at hpw
  obtain ⟨_, hB, hAB⟩ := hpw
  rw [List.pairwise_cons] at hB
  have e1 : rest ops (listed.setIfInBounds i true) = (rest ops listed).filter fun k => decide (k ≠ i) := by
    simp only [rest, List.filter_filter]
    congr 1
    funext k
    rw [getD_set hi]
    by_cases e : k = i <;> simp [e]
  rw [e1, hr, List.filter_append, List.filter_cons]
  simp only [ne_eq, not_true_eq_false, decide_false, Bool.false_eq_true, if_false]
  rw [List.filter_eq_self.2, List.filter_eq_self.2]
  · intro k hk; have := hB.1 k hk; simp; omega
  · intro k hk; have := hAB k hk i (by simp); simp; omega

theorem draw_any {E : Env} {ops : Array Oper} (hd : drawOK E ops = true) {Q : Exit → Act → World → Prop} {R : Act → Heap → Prop} :
    ∀ (fuel : Nat) (listed : Array Bool), (rest ops listed).length = fuel → listed.size = ops.size → closed ops (fun k => listed.getD k false = true) →
      ∀ (a : Act) (w : World), RL E ops R (rest ops listed) a w.heap → (∀ a w', Same w w' → R a w'.heap → Q .normal a w') → wpAny E.P .any ops Q fuel listed a w := by
  have hedge : ∀ {i : Nat} {o : Oper}, ops[i]? = some o → ∀ e ∈ o.after.toList, bnds e = true → e.on < i := by
    intro i o ho e he hb
    simp only [drawOK, Bool.and_eq_true] at hd
    have := edgesOk_at hd.1 (show ops.toList[i]? = some o by simpa using ho) e he hb
    omega
  intro fuel
  induction fuel with
  | zero =>
    intro listed hlen hs hcl a w hh hR
    have h0 : rest ops listed = [] := List.length_eq_zero_iff.1 hlen
    rw [h0] at hh
    refine ⟨?_, hR a w (Same.refl _) hh⟩
    unfold Region.ready
    rw [List.filter_eq_nil_iff]
    intro i hi
    have : ¬ (!listed.getD i true) = true := by
      have := List.filter_eq_nil_iff.1 h0 i hi
      exact this
    simp only [Bool.and_eq_true, not_and]
    intro h1
    exact absurd h1 this
  | succ fuel ih =>
    intro listed hlen hs hcl a w hh hR
    refine ⟨fun hempty => ?_, fun i hi => ?_⟩
    · exfalso
      cases hr : rest ops listed with
      | nil => rw [hr] at hlen; simp at hlen
      | cons i r =>
        have hmem : i ∈ rest ops listed := by rw [hr]; simp
        have hpw : (rest ops listed).Pairwise (· < ·) := List.Pairwise.filter _ List.pairwise_lt_range
        rw [hr, List.pairwise_cons] at hpw
        simp only [rest, List.mem_filter, List.mem_range] at hmem
        unfold Region.ready at hempty
        have := List.filter_eq_nil_iff.1 hempty i (by simpa using hmem.1)
        apply this
        have ho : ops[i]? = some ops[i] := Array.getElem?_eq_getElem hmem.1
        rw [ho, hmem.2]
        simp only [Option.map_some, Option.getD_some, Bool.true_and, Array.all_eq_true_iff_forall_mem]
        intro e he
        by_cases hbn : bnds e = true
        case neg => rw [bnds_eq]; simp [hbn]
        have h1 := hedge ho e (by simpa using he) hbn
        have : listed.getD e.on false = true := by
          cases hc : listed.getD e.on false with
          | true => rfl
          | false =>
            exfalso
            have hlt : e.on < listed.size := by omega
            have e2 : listed.getD e.on true = false := by
              rw [Array.getD_eq_getD_getElem?, Array.getElem?_eq_getElem hlt] at hc ⊢
              exact hc
            have h3 : e.on ∈ rest ops listed := by simp only [rest, List.mem_filter, List.mem_range]; exact ⟨by omega, by simp [e2]⟩
            rw [hr] at h3
            rcases List.mem_cons.1 h3 with h4 | h4
            · omega
            · have := hpw.1 _ h4; omega
        rw [this]
        simp
    · have hi' := hi
      unfold Region.ready at hi'
      simp only [List.mem_filter, List.mem_range, Bool.and_eq_true] at hi'
      obtain ⟨hlt, hun, hall⟩ := hi'
      have hmem : i ∈ rest ops listed := by simp only [rest, List.mem_filter, List.mem_range]; exact ⟨hlt, hun⟩
      obtain ⟨A, B, hr⟩ := List.append_of_mem hmem
      have ho : ops[i]? = some ops[i] := Array.getElem?_eq_getElem hlt
      have hdone : ∀ o, ops[i]? = some o → ∀ e ∈ o.after.toList, bnds e = true → listed.getD e.on false = true := by
        intro o ho' e he hb
        rw [ho'] at hall
        simp only [Option.map_some, Option.getD_some, Array.all_eq_true_iff_forall_mem] at hall
        have := hall e (by simpa using he)
        rw [bnds_eq, hb] at this
        simpa using this
      have hpw : (rest ops listed).Pairwise (· < ·) := List.Pairwise.filter _ List.pairwise_lt_range
      rw [hr, List.pairwise_append] at hpw
      rw [hr] at hh
      have h1 := RL_front (i := i) (B := B) A (fun k hk => by
        refine drawOK_pair hd hcl (hpw.2.2 k hk i (by simp)) hdone ?_
        have hkm : k ∈ rest ops listed := by rw [hr]; simp [hk]
        simp only [rest, List.mem_filter, List.mem_range] at hkm
        intro hc
        have hlt' : k < listed.size := by omega
        have e2 : listed.getD k true = true := by
          rw [Array.getD_eq_getD_getElem?, Array.getElem?_eq_getElem hlt'] at hc ⊢
          exact hc
        rw [e2] at hkm
        simp at hkm) hh
      simp only [RL, ho] at h1
      refine RL_wpOp ho h1 fun a' w' hsm hk => ?_
      have hset := rest_set hs hr
      refine ih _ ?_ (by simpa using hs) ?_ a' w' (by rw [hset]; exact hk) (fun a2 w2 h2 => hR a2 w2 (hsm.trans h2))
      · rw [hset]
        rw [hr] at hlen
        simp only [List.length_append, List.length_cons] at hlen ⊢
        omega
      · intro j o hj hL e he hb
        rw [getD_set (by omega)] at hL ⊢
        split
        · rfl
        · split at hL
          · rename_i e3; subst e3; exact hdone o hj e he hb
          · exact hcl j o hj hL e he hb

theorem rest_all (ops : Array Oper) : rest ops (Array.replicate ops.size false) = List.range ops.size := by
  unfold rest
  rw [List.filter_eq_self]
  intro i hi
  have : i < ops.size := by simpa using hi
  simp [Array.getD_eq_getD_getElem?, this]

theorem draw_ok {E : Env} (hE : E.Ok) {ops : Array Oper} {id : Nat} (hd : drawOK E ops = true) {Q : Exit → Act → World → Prop} {R : Act → Heap → Prop} {a : Act} {w : World} (hR : ∀ a w', Same w w' → R a w'.heap → Q .normal a w')
    (h : RL E ops R (List.range ops.size) a w.heap) : (Code.region id ops true).wp E.P Q a w := by
  refine wp_region_draw fun t => ?_
  have hs : Region.schedule (E.P.follows .mixedOrders) ops t = Region.linearise .any ops t := by
    unfold Region.schedule
    rw [hE.mixed]
    simp
  rw [hs]
  unfold Region.linearise
  refine wpAny_sound ops.size t _ a _ (draw_any hd ops.size _ ?_ ?_ ?_ a _ ?_ fun a w' h => hR a w' ⟨h.os, h.tape, h.output⟩)
  · rw [rest_all]; simp
  · simp
  · intro j o hj hL
    exfalso
    simp only [Array.getD_eq_getD_getElem?, Array.getElem?_replicate] at hL
    split at hL <;> simp at hL
  · rw [rest_all]
    exact h

theorem still_ok {E : Env} {ops : Array Oper} {id : Nat} {Q : Exit → Act → World → Prop} {R : Act → Heap → Prop} {a : Act} {w : World} (hR : ∀ a w', Same w w' → R a w'.heap → Q .normal a w')
    (h : RL E ops R (List.range ops.size) a w.heap) : (Code.region id ops false).wp E.P Q a w :=
  wp_region (RL_wpOps _ a w h hR)

end Go.Vc

namespace Go.Vc

/-! ### Regions some of whose operations do not commute: one order for each way these may lie -/

def befB : List Nat → Nat → Nat → Bool
  | [], _, _ => false
  | x :: r, p, q => match Nat.beq x p with
    | true => true
    | false => match Nat.beq x q with
      | true => false
      | false => befB r p q

def inC (C : List (Nat × Nat)) (k i : Nat) : Bool := C.any fun c => (Nat.beq c.1 k && Nat.beq c.2 i) || (Nat.beq c.1 i && Nat.beq c.2 k)

def fullB : List (Nat × Nat) → List (List Nat) → Bool
  | [], Ls => match Ls with
    | [] => false
    | _ :: _ => true
  | c :: r, Ls => fullB r (Ls.filter fun l => befB l c.1 c.2) && fullB r (Ls.filter fun l => befB l c.2 c.1)

theorem fullB_at : ∀ {C : List (Nat × Nat)} {Ls : List (List Nat)}, fullB C Ls = true → ∀ b : Nat × Nat → Bool, ∃ l ∈ Ls, ∀ c ∈ C, (if b c then befB l c.1 c.2 else befB l c.2 c.1) = true
  | [], [], h, _ => by simp [fullB] at h
  | [], l :: _, _, _ => ⟨l, by simp, by simp⟩
  | c :: r, Ls, h, b => by
    simp only [fullB, Bool.and_eq_true] at h
    cases hb : b c with
    | true =>
      obtain ⟨l, hl, hr⟩ := fullB_at h.1 b
      rw [List.mem_filter] at hl
      refine ⟨l, hl.1, fun c' hc' => ?_⟩
      rcases List.mem_cons.1 hc' with rfl | hc'
      · rw [hb]; exact hl.2
      · exact hr c' hc'
    | false =>
      obtain ⟨l, hl, hr⟩ := fullB_at h.2 b
      rw [List.mem_filter] at hl
      refine ⟨l, hl.1, fun c' hc' => ?_⟩
      rcases List.mem_cons.1 hc' with rfl | hc'
      · rw [hb]; exact hl.2
      · exact hr c' hc'

def pairC (E : Env) (ops : Array Oper) (all : List Oper) (C : List (Nat × Nat)) (ms : List Nat) (k i : Nat) : Bool :=
  inC C k i || match nth ms i, nth all k, nth all i with
    | some m, some x, some y => Nat.testBit m k || commB E ops x y
    | _, _, _ => false

def ordOk (E : Env) (ops : Array Oper) (all : List Oper) (C : List (Nat × Nat)) (ms : List Nat) : List Nat → List Nat → Bool
  | _, [] => true
  | pre, i :: r => Nat.blt i ops.size && (pre.all fun k => !(Nat.beq k i) && pairC E ops all C ms k i) && ordOk E ops all C ms (i :: pre) r

/-- When an effect comes, all that may lie either way is settled. -/
def effOk (E : Env) (C : List (Nat × Nat)) : Nat → List Oper → List Nat → Bool
  | _, [], _ => true
  | i, o :: r, ms => (match Nat.blt 1 (clsO E o) with
    | false => true
    | true => C.all fun c => Nat.beq c.1 i || Nat.beq c.2 i || (match nth ms i with
      | some m => Nat.testBit m c.1 || Nat.testBit m c.2
      | none => false)) && effOk E C (i + 1) r ms

theorem effOk_at {E : Env} {C : List (Nat × Nat)} {ms : List Nat} : ∀ {l : List Oper} {i : Nat}, effOk E C i l ms = true → ∀ {k : Nat} {o : Oper}, l[k]? = some o → 1 < clsO E o →
    ∀ c ∈ C, c.1 = i + k ∨ c.2 = i + k ∨ ∃ m, ms[i + k]? = some m ∧ (Nat.testBit m c.1 = true ∨ Nat.testBit m c.2 = true)
  | [], _, _, k, o, hx => by simp at hx
  | o' :: r, i, h, 0, o, hx => by
    simp only [List.getElem?_cons_zero, Option.some.injEq] at hx
    subst hx
    intro hc c hcm
    simp only [effOk, Bool.and_eq_true] at h
    have h1 := h.1
    rw [show Nat.blt 1 (clsO E o') = true by simpa [Nat.blt_eq] using hc] at h1
    have := List.all_eq_true.1 h1 c hcm
    simp only [Bool.or_eq_true] at this
    rcases this with (h2 | h2) | h2
    · exact .inl (Nat.eq_of_beq_eq_true h2)
    · exact .inr (.inl (Nat.eq_of_beq_eq_true h2))
    · right; right
      split at h2
      · rename_i m hm
        rw [nth_toList] at hm
        exact ⟨m, hm, by simpa using h2⟩
      · cases h2
  | o' :: r, i, h, k + 1, o, hx => by
    simp only [List.getElem?_cons_succ] at hx
    simp only [effOk, Bool.and_eq_true] at h
    have := effOk_at h.2 hx
    rw [show i + (k + 1) = i + 1 + k from by omega]
    exact this

theorem stepR_all {E : Env} {ops : Array Oper} {o : Oper} {a : Act} {h : Heap} {X : Type} {l0 : X} {S : X → Prop} {K : X → Act → Heap → Prop} (hl : S l0) (hc : ¬ 1 < clsO E o)
    (hh : ∀ l, S l → stepR E ops o a h (K l)) : stepR E ops o a h fun a h => ∀ l, S l → K l a h := by
  unfold stepR at *
  split
  · rename_i hw
    have hh : ∀ l, S l → stp E.P (clsO E o) o a h (K l) := fun l hl => by have := hh l hl; rwa [if_pos hw] at this
    match hk : clsO E o, hc with
    | 0, _ =>
      rw [hk] at hh
      unfold stp at *
      obtain ⟨w, hw⟩ := fill_world h
      obtain ⟨v, hr, h1⟩ := hh l0 hl
      refine ⟨v, hr, fun l hl => ?_⟩
      obtain ⟨v', hr', h1'⟩ := hh l hl
      have := (hr w).symm.trans (hr' w)
      injection this with h2 _
      injection h2 with h3
      rw [h3]; exact h1'
    | 1, _ =>
      rw [hk] at hh
      unfold stp at *
      obtain ⟨w, hw⟩ := fill_world h
      obtain ⟨v, hr, h1⟩ := hh l0 hl
      refine ⟨v, hr, fun l hl => ?_⟩
      obtain ⟨v', hr', h1'⟩ := hh l hl
      have := (hr w (by rw [hw]; exact Keep.refl _ _)).symm.trans (hr' w (by rw [hw]; exact Keep.refl _ _))
      injection this with h2 _
      injection h2 with h3
      rw [h3]; exact h1'
    | n + 2, hc => exact absurd (by omega) hc
  · rename_i hw
    intro l hl
    have := hh l hl
    rwa [if_neg hw] at this

def drawsOK (E : Env) (ops : Array Oper) (C : List (Nat × Nat)) (Ls : List (List Nat)) : Bool :=
  edgesOk 0 ops.toList && fullB C Ls && effOk E C 0 ops.toList (masks ops.toList []) && Ls.all fun l => ((List.range ops.size).all fun i => l.any (Nat.beq i)) && ordOk E ops ops.toList C (masks ops.toList []) [] l

structure PairC (E : Env) (ops : Array Oper) (C : List (Nat × Nat)) (k i : Nat) : Prop where
  ne : k ≠ i
  or : inC C k i = true ∨ ((∃ m, (masks ops.toList [])[i]? = some m ∧ Nat.testBit m k = true) ∨ pairOk E ops k i)

theorem ordOk_pw {E : Env} {ops : Array Oper} {C : List (Nat × Nat)} : ∀ {l pre : List Nat}, ordOk E ops ops.toList C (masks ops.toList []) pre l = true →
    (∀ i ∈ l, i < ops.size) ∧ l.Pairwise (PairC E ops C) ∧ ∀ k ∈ pre, ∀ i ∈ l, PairC E ops C k i
  | [], pre, _ => ⟨by simp, List.Pairwise.nil, by simp⟩
  | i :: r, pre, h => by
    simp only [ordOk, Bool.and_eq_true, List.all_eq_true, Nat.blt_eq] at h
    obtain ⟨⟨h1, h2⟩, h3⟩ := h
    obtain ⟨g1, g2, g3⟩ := ordOk_pw h3
    have hp : ∀ k ∈ pre, PairC E ops C k i := by
      intro k hk
      have := h2 k hk
      simp only [pairC, Bool.or_eq_true] at this
      refine ⟨fun e => ?_, ?_⟩
      · subst e; simp [Nat.beq_refl] at this
      · rcases this.2 with hc | hc
        · exact .inl hc
        · right
          split at hc
          · rename_i m x y hm hx hy
            rw [nth_toList] at hm hx hy
            rw [Bool.or_eq_true] at hc
            rcases hc with hc | hc
            · exact .inl ⟨m, hm, hc⟩
            · right
              intro x' y' hx' hy'
              have e1 : x = x' := by rw [Array.getElem?_toList] at hx; rw [hx] at hx'; simpa using hx'
              have e2 : y = y' := by rw [Array.getElem?_toList] at hy; rw [hy] at hy'; simpa using hy'
              rw [← e1, ← e2]; exact hc
          · simp at hc
    refine ⟨?_, List.pairwise_cons.2 ⟨fun j hj => g3 i (by simp) j hj, g2⟩, ?_⟩
    · intro j hj
      rcases List.mem_cons.1 hj with rfl | hj
      · exact h1
      · exact g1 j hj
    · intro k hk j hj
      rcases List.mem_cons.1 hj with rfl | hj
      · exact hp k hk
      · exact g3 k (by simp [hk]) j hj

theorem befB_append {A B : List Nat} {p q : Nat} (hp : p ∉ A) (hq : q ∈ A) : befB (A ++ B) p q = false := by
  induction A with
  | nil => simp at hq
  | cons x r ih =>
    simp only [List.cons_append, befB]
    have h1 : Nat.beq x p = false := by
      cases h : Nat.beq x p with
      | false => rfl
      | true => exact absurd (by rw [Nat.eq_of_beq_eq_true h]; simp) hp
    rw [h1]
    cases h2 : Nat.beq x q with
    | true => rfl
    | false =>
      rcases List.mem_cons.1 hq with h3 | h3
      · subst h3; rw [Nat.beq_refl] at h2; cases h2
      · exact ih (fun h => hp (by simp [h])) h3

/-- What is left of an order. -/
def left (listed : Array Bool) (l : List Nat) : List Nat := l.filter fun i => !listed.getD i true

theorem left_set {ops : Array Oper} {listed : Array Bool} (hs : listed.size = ops.size) {l : List Nat} (hnd : l.Nodup) {i : Nat} (hi : i < ops.size) {A B : List Nat} (hr : left listed l = A ++ i :: B) :
    left (listed.setIfInBounds i true) l = A ++ B := by
  have hnd' : (left listed l).Nodup := hnd.sublist List.filter_sublist
  have e1 : left (listed.setIfInBounds i true) l = (left listed l).filter fun k => decide (k ≠ i) := by
    simp only [left, List.filter_filter]
    congr 1
    funext k
    rw [getD_set (by omega)]
    by_cases e : k = i <;> simp [e]
  rw [hr, List.nodup_append] at hnd'
  obtain ⟨_, hB, hAB⟩ := hnd'
  rw [List.nodup_cons] at hB
  rw [e1, hr, List.filter_append, List.filter_cons]
  simp only [ne_eq, not_true_eq_false, decide_false, Bool.false_eq_true, if_false]
  rw [List.filter_eq_self.2, List.filter_eq_self.2]
  · intro k hk; simp; rintro rfl; exact hB.1 hk
  · intro k hk; simp; rintro rfl; exact hAB k hk k (by simp) rfl

/-- Of which two is it known already which comes first? -/
def known (listed : Array Bool) (c : Nat × Nat) : Prop := listed.getD c.1 true = true ∨ listed.getD c.2 true = true

structure Good (E : Env) (ops : Array Oper) (C : List (Nat × Nat)) (l : List Nat) : Prop where
  lt : ∀ i ∈ l, i < ops.size
  all : ∀ i, i < ops.size → i ∈ l
  pw : l.Pairwise (PairC E ops C)

theorem Good.nodup {E : Env} {ops : Array Oper} {C : List (Nat × Nat)} {l : List Nat} (g : Good E ops C l) : l.Nodup := g.pw.imp fun h => h.ne

theorem pw_split {r : Nat → Nat → Prop} {A B : List Nat} {i : Nat} (h : (A ++ i :: B).Pairwise r) : ∀ k ∈ A, r k i := by
  rw [List.pairwise_append] at h
  exact fun k hk => h.2.2 k hk i (by simp)

theorem mem_filter_split {f : Nat → Bool} {l A B : List Nat} {i : Nat} (h : l.filter f = A ++ i :: B) : ∃ A' B', l = A' ++ i :: B' ∧ ∀ k ∈ A, k ∈ A' := by
  induction l generalizing A with
  | nil => simp at h
  | cons x r ih =>
    rw [List.filter_cons] at h
    split at h
    · cases A with
      | nil =>
        simp only [List.nil_append, List.cons.injEq] at h
        exact ⟨[], r, by rw [h.1]; rfl, by simp⟩
      | cons a A =>
        simp only [List.cons_append, List.cons.injEq] at h
        obtain ⟨A', B', h1, h2⟩ := ih h.2
        refine ⟨x :: A', B', by rw [h1]; rfl, ?_⟩
        intro k hk
        rcases List.mem_cons.1 hk with rfl | hk
        · simp [h.1]
        · simp [h2 k hk]
    · obtain ⟨A', B', h1, h2⟩ := ih h
      exact ⟨x :: A', B', by rw [h1]; rfl, fun k hk => by simp [h2 k hk]⟩

theorem masks_not {ops : Array Oper} {L : Nat → Prop} (hL : closed ops L) {i : Nat} (hi : ∀ o, ops[i]? = some o → ∀ e ∈ o.after.toList, bnds e = true → L e.on) {m : Nat} (hm : (masks ops.toList [])[i]? = some m) {k : Nat}
    (hb : Nat.testBit m k = true) : L k ∨ k = i := by
  have hL' : closed ops fun t => L t ∨ t = i := by
    intro t o ho ht e he hb
    rcases ht with ht | ht
    · exact .inl (hL t o ho ht e he hb)
    · subst ht; exact .inl (hi o ho e he hb)
  exact masks_at hL' ops.toList [] (fun k o hk => by simpa using hk) (fun k x hk => by simp at hk) i m hm (.inr rfl) k hb

theorem draws_any {E : Env} {ops : Array Oper} {C : List (Nat × Nat)} (hed : edgesOk 0 ops.toList = true) (hef : effOk E C 0 ops.toList (masks ops.toList []) = true) {Q : Exit → Act → World → Prop} {R : Act → Heap → Prop} :
    ∀ (fuel : Nat) (listed : Array Bool), (rest ops listed).length = fuel → listed.size = ops.size → closed ops (fun k => listed.getD k false = true) →
      ∀ (Ls : List (List Nat)) (dec : Nat × Nat → Bool) (a : Act) (w : World), (∀ l ∈ Ls, Good E ops C l) →
      (∀ b : Nat × Nat → Bool, (∀ c ∈ C, known listed c → b c = dec c) → ∃ l ∈ Ls, ∀ c ∈ C, (if b c then befB l c.1 c.2 else befB l c.2 c.1) = true) →
      (∀ l ∈ Ls, RL E ops R (left listed l) a w.heap) → (∀ a w', Same w w' → R a w'.heap → Q .normal a w') → wpAny E.P .any ops Q fuel listed a w := by
  have hedge : ∀ {i : Nat} {o : Oper}, ops[i]? = some o → ∀ e ∈ o.after.toList, bnds e = true → e.on < i := by
    intro i o ho e he hb
    have := edgesOk_at hed (show ops.toList[i]? = some o by simpa using ho) e he hb
    omega
  intro fuel
  induction fuel with
  | zero =>
    intro listed hlen hs hcl Ls dec a w hg hf hh hR
    have h0 : rest ops listed = [] := List.length_eq_zero_iff.1 hlen
    obtain ⟨l, hl, _⟩ := hf dec (fun c _ _ => rfl)
    have h1 : left listed l = [] := by
      unfold left
      rw [List.filter_eq_nil_iff]
      intro i hi
      exact List.filter_eq_nil_iff.1 h0 i (by simpa using (hg l hl).lt i hi)
    have hh := hh l hl
    rw [h1] at hh
    refine ⟨?_, hR a w (Same.refl _) hh⟩
    unfold Region.ready
    rw [List.filter_eq_nil_iff]
    intro i hi
    have : ¬ (!listed.getD i true) = true := by
      have := List.filter_eq_nil_iff.1 h0 i hi
      exact this
    simp only [Bool.and_eq_true, not_and]
    intro h1
    exact absurd h1 this
  | succ fuel ih =>
    intro listed hlen hs hcl Ls dec a w hg hf hh hR
    refine ⟨fun hempty => ?_, fun i hi => ?_⟩
    · exfalso
      cases hr : rest ops listed with
      | nil => rw [hr] at hlen; simp at hlen
      | cons i r =>
        have hmem : i ∈ rest ops listed := by rw [hr]; simp
        have hpw : (rest ops listed).Pairwise (· < ·) := List.Pairwise.filter _ List.pairwise_lt_range
        rw [hr, List.pairwise_cons] at hpw
        simp only [rest, List.mem_filter, List.mem_range] at hmem
        unfold Region.ready at hempty
        have := List.filter_eq_nil_iff.1 hempty i (by simpa using hmem.1)
        apply this
        have ho : ops[i]? = some ops[i] := Array.getElem?_eq_getElem hmem.1
        rw [ho, hmem.2]
        simp only [Option.map_some, Option.getD_some, Bool.true_and, Array.all_eq_true_iff_forall_mem]
        intro e he
        by_cases hbn : bnds e = true
        case neg => rw [bnds_eq]; simp [hbn]
        have h1 := hedge ho e (by simpa using he) hbn
        have : listed.getD e.on false = true := by
          cases hc : listed.getD e.on false with
          | true => rfl
          | false =>
            exfalso
            have hlt : e.on < listed.size := by omega
            have e2 : listed.getD e.on true = false := by
              rw [Array.getD_eq_getD_getElem?, Array.getElem?_eq_getElem hlt] at hc ⊢
              exact hc
            have h3 : e.on ∈ rest ops listed := by simp only [rest, List.mem_filter, List.mem_range]; exact ⟨by omega, by simp [e2]⟩
            rw [hr] at h3
            rcases List.mem_cons.1 h3 with h4 | h4
            · omega
            · have := hpw.1 _ h4; omega
        rw [this]
        simp
    · have hi' := hi
      unfold Region.ready at hi'
      simp only [List.mem_filter, List.mem_range, Bool.and_eq_true] at hi'
      obtain ⟨hlt, hun, hall⟩ := hi'
      have hmem : i ∈ rest ops listed := by simp only [rest, List.mem_filter, List.mem_range]; exact ⟨hlt, hun⟩
      obtain ⟨A, B, hr⟩ := List.append_of_mem hmem
      have ho : ops[i]? = some ops[i] := Array.getElem?_eq_getElem hlt
      have hdone : ∀ o, ops[i]? = some o → ∀ e ∈ o.after.toList, bnds e = true → listed.getD e.on false = true := by
        intro o ho' e he hb
        rw [ho'] at hall
        simp only [Option.map_some, Option.getD_some, Array.all_eq_true_iff_forall_mem] at hall
        have := hall e (by simpa using he)
        rw [bnds_eq, hb] at this
        simpa using this
      have hset := rest_set hs hr
      -- the orders in which what is not done yet, and doesn't commute, comes later
      let ok : List Nat → Bool := fun l => C.all fun c =>
        (!(Nat.beq c.1 i && !listed.getD c.2 true) || befB l c.1 c.2 || Nat.beq c.1 c.2) && (!(Nat.beq c.2 i && !listed.getD c.1 true) || befB l c.2 c.1 || Nat.beq c.1 c.2)
      have hone : ∀ l ∈ Ls.filter ok, ∃ A B, left listed l = A ++ i :: B ∧ ∀ k ∈ A, pairOk E ops k i := by
        intro l hl
        rw [List.mem_filter] at hl
        obtain ⟨hl, hok⟩ := hl
        have hgl := hg l hl
        have him : i ∈ left listed l := by simp only [left, List.mem_filter]; exact ⟨hgl.all i hlt, hun⟩
        obtain ⟨A, B, hlr⟩ := List.append_of_mem him
        refine ⟨A, B, hlr, fun k hk => ?_⟩
        obtain ⟨A', B', hl', hA'⟩ := mem_filter_split hlr
        have hpw := hgl.pw
        rw [hl'] at hpw
        have hp := pw_split hpw k (hA' k hk)
        have hku : listed.getD k true = false := by
          have : k ∈ left listed l := by rw [hlr]; simp [hk]
          simp only [left, List.mem_filter] at this
          simpa using this.2
        have hiA : i ∉ A' := by
          have := hgl.nodup
          rw [hl', List.nodup_append] at this
          intro h
          exact this.2.2 i h i (by simp) rfl
        rcases hp.or with hc | ⟨m, hm, hb⟩ | hc
        · exfalso
          simp only [inC, List.any_eq_true, Bool.or_eq_true, Bool.and_eq_true] at hc
          obtain ⟨c, hcm, hc⟩ := hc
          have := List.all_eq_true.1 hok c hcm
          simp only [Bool.and_eq_true, Bool.or_eq_true, Bool.not_eq_true', Bool.and_eq_false_iff] at this
          have hbf : befB l i k = false := by rw [hl']; exact befB_append hiA (hA' k hk)
          rcases hc with ⟨h1, h2⟩ | ⟨h1, h2⟩
          · have e1 := Nat.eq_of_beq_eq_true h1
            have e2 := Nat.eq_of_beq_eq_true h2
            rw [e1, e2] at this
            rcases this.2 with (h3 | h3) | h3
            · rcases h3 with h3 | h3
              · rw [Nat.beq_refl] at h3; cases h3
              · rw [hku] at h3; simp at h3
            · rw [hbf] at h3; cases h3
            · exact hp.ne (Nat.eq_of_beq_eq_true h3)
          · have e1 := Nat.eq_of_beq_eq_true h1
            have e2 := Nat.eq_of_beq_eq_true h2
            rw [e1, e2] at this
            rcases this.1 with (h3 | h3) | h3
            · rcases h3 with h3 | h3
              · rw [Nat.beq_refl] at h3; cases h3
              · rw [hku] at h3; simp at h3
            · rw [hbf] at h3; cases h3
            · exact hp.ne (Nat.eq_of_beq_eq_true h3).symm
        · exfalso
          rcases masks_not hcl hdone hm hb with h1 | h1
          · have hlt' : k < listed.size := by
              have := hgl.lt k (by rw [hl']; simp [hA' k hk])
              omega
            rw [Array.getD_eq_getD_getElem?, Array.getElem?_eq_getElem hlt'] at h1 hku
            simp only [Option.getD_some] at h1 hku
            rw [h1] at hku; cases hku
          · exact hp.ne h1
        · exact hc
      have hne : (Ls.filter ok) ≠ [] → True := fun _ => trivial
      -- what is known now
      let dec' : Nat × Nat → Bool := fun c => if listed.getD c.1 true = true ∨ listed.getD c.2 true = true then dec c else Nat.beq c.1 i
      have hf' : ∀ b : Nat × Nat → Bool, (∀ c ∈ C, known (listed.setIfInBounds i true) c → b c = dec' c) → ∃ l ∈ Ls.filter ok, ∀ c ∈ C, (if b c then befB l c.1 c.2 else befB l c.2 c.1) = true := by
        intro b hb
        have hgd : ∀ k, (listed.setIfInBounds i true).getD k true = if k = i then true else listed.getD k true := fun k => getD_set (by omega) true
        obtain ⟨l, hl, hlc⟩ := hf b (fun c hc hk => by
          have hk' : known (listed.setIfInBounds i true) c := by
            rcases hk with h | h
            · left; rw [hgd]; split <;> simp_all
            · right; rw [hgd]; split <;> simp_all
          have := hb c hc hk'
          rw [this]
          exact if_pos hk)
        refine ⟨l, List.mem_filter.2 ⟨hl, ?_⟩, hlc⟩
        refine List.all_eq_true.2 fun c hc => ?_
        have hc2 := hlc c hc
        simp only [Bool.and_eq_true, Bool.or_eq_true, Bool.not_eq_true', Bool.and_eq_false_iff]
        constructor
        · cases h1 : Nat.beq c.1 i with
          | false => exact .inl (.inl (.inl rfl))
          | true =>
            cases h2 : listed.getD c.2 true with
            | true => exact .inl (.inl (.inr rfl))
            | false =>
              left; right
              have e1 := Nat.eq_of_beq_eq_true h1
              have hbc := hb c hc (by left; rw [hgd, if_pos e1])
              have : dec' c = true := by
                show (if _ then _ else _) = _
                rw [if_neg]
                · exact h1
                · rintro (h | h)
                  · rw [e1] at h; rw [h] at hun; simp at hun
                  · rw [h2] at h; cases h
              rw [this] at hbc
              rw [hbc] at hc2
              simpa using hc2
        · cases h1 : Nat.beq c.2 i with
          | false => exact .inl (.inl (.inl rfl))
          | true =>
            cases h2 : listed.getD c.1 true with
            | true => exact .inl (.inl (.inr rfl))
            | false =>
              cases h3 : Nat.beq c.1 c.2 with
              | true => exact .inr rfl
              | false =>
                left; right
                have e1 := Nat.eq_of_beq_eq_true h1
                have hbc := hb c hc (by right; rw [hgd, if_pos e1])
                have : dec' c = false := by
                  show (if _ then _ else _) = _
                  rw [if_neg]
                  · rw [← e1]; exact h3
                  · rintro (h | h)
                    · rw [h2] at h; cases h
                    · rw [e1] at h; rw [h] at hun; simp at hun
                rw [this] at hbc
                rw [hbc] at hc2
                simpa using hc2
      -- all the orders step alike
      have hstep : ∀ l ∈ Ls.filter ok, stepR E ops ops[i] a w.heap (RL E ops R (left (listed.setIfInBounds i true) l)) := by
        intro l hl
        obtain ⟨A, B, hlr, hp⟩ := hone l hl
        have hl2 := (List.mem_filter.1 hl).1
        have h1 := hh l hl2
        rw [hlr] at h1
        have h2 := RL_front A hp h1
        simp only [RL, ho] at h2
        rw [left_set hs (hg l hl2).nodup hlt hlr]
        exact h2
      have hclosed : closed ops (fun k => (listed.setIfInBounds i true).getD k false = true) := by
        intro j o hj hL e he hb
        rw [getD_set (by omega)] at hL ⊢
        split
        · rfl
        · split at hL
          · rename_i e3; subst e3; exact hdone o hj e he hb
          · exact hcl j o hj hL e he hb
      have hlen' : (rest ops (listed.setIfInBounds i true)).length = fuel := by
        rw [hset]
        rw [hr] at hlen
        simp only [List.length_append, List.length_cons] at hlen ⊢
        omega
      obtain ⟨l0, hl0, hl0c⟩ := hf' dec' (fun c _ _ => rfl)
      by_cases hcl1 : 1 < clsO E ops[i]
      · -- an effect: one order from here on
        refine RL_wpOp ho (hstep l0 hl0) fun a' w' hsm hk => ?_
        refine ih _ hlen' (by simpa using hs) hclosed [l0] dec' a' w' (fun l hl => by rw [List.mem_singleton.1 hl]; exact hg l0 (List.mem_filter.1 hl0).1) (fun b hb => ⟨l0, by simp, fun c hc => ?_⟩)
          (fun l hl => by rw [List.mem_singleton.1 hl]; exact hk) (fun a2 w2 h2 => hR a2 w2 (hsm.trans h2))
        have hkn : known (listed.setIfInBounds i true) c := by
          have hgd : ∀ k, (listed.setIfInBounds i true).getD k true = if k = i then true else listed.getD k true := fun k => getD_set (by omega) true
          have hbig : ∀ k, listed.getD k false = true → listed.getD k true = true := by
            intro k hk
            rw [Array.getD_eq_getD_getElem?] at hk ⊢
            cases hx : listed[k]? with
            | none => rfl
            | some x => rw [hx] at hk; simpa using hk
          have hto : ops.toList[i]? = some ops[i] := by rw [Array.getElem?_toList]; exact ho
          rcases effOk_at hef hto hcl1 c hc with h1 | h1 | ⟨m, hm, h1⟩
          · left; rw [hgd, if_pos (by omega)]
          · right; rw [hgd, if_pos (by omega)]
          · rw [Nat.zero_add] at hm
            rcases h1 with h1 | h1
            · left
              rcases masks_not hcl hdone hm h1 with h2 | h2
              · rw [hgd]; split
                · rfl
                · exact hbig _ h2
              · rw [hgd, if_pos h2]
            · right
              rcases masks_not hcl hdone hm h1 with h2 | h2
              · rw [hgd]; split
                · rfl
                · exact hbig _ h2
              · rw [hgd, if_pos h2]
        rw [hb c hc hkn]
        exact hl0c c hc
      · have hall' : stepR E ops ops[i] a w.heap (fun a h => ∀ l, l ∈ Ls.filter ok → RL E ops R (left (listed.setIfInBounds i true) l) a h) := stepR_all hl0 hcl1 hstep
        refine RL_wpOp ho hall' fun a' w' hsm hk => ?_
        exact ih _ hlen' (by simpa using hs) hclosed (Ls.filter ok) dec' a' w' (fun l hl => hg l (List.mem_filter.1 hl).1) hf' hk (fun a2 w2 h2 => hR a2 w2 (hsm.trans h2))

theorem drawsOK_lt {E : Env} {ops : Array Oper} {C : List (Nat × Nat)} {Ls : List (List Nat)} (hd : drawsOK E ops C Ls = true) : ∀ l ∈ Ls, ∀ i ∈ l, i < ops.size := by
  simp only [drawsOK, Bool.and_eq_true] at hd
  intro l hl
  have := List.all_eq_true.1 hd.2 l hl
  simp only [Bool.and_eq_true] at this
  exact (ordOk_pw this.2).1

theorem draws_ok {E : Env} (hE : E.Ok) {ops : Array Oper} {id : Nat} {C : List (Nat × Nat)} {Ls : List (List Nat)} (hd : drawsOK E ops C Ls = true) {Q : Exit → Act → World → Prop} {R : Act → Heap → Prop} {a : Act} {w : World} (hR : ∀ a w', Same w w' → R a w'.heap → Q .normal a w')
    (h : ∀ l ∈ Ls, RL E ops R l a w.heap) : (Code.region id ops true).wp E.P Q a w := by
  refine wp_region_draw fun t => ?_
  have hs : Region.schedule (E.P.follows .mixedOrders) ops t = Region.linearise .any ops t := by
    unfold Region.schedule
    rw [hE.mixed]
    simp
  rw [hs]
  unfold Region.linearise
  simp only [drawsOK, Bool.and_eq_true] at hd
  obtain ⟨⟨⟨hed, hful⟩, hef⟩, hls⟩ := hd
  have hg : ∀ l ∈ Ls, Good E ops C l := by
    intro l hl
    have := List.all_eq_true.1 hls l hl
    simp only [Bool.and_eq_true] at this
    obtain ⟨g1, g2, _⟩ := ordOk_pw this.2
    refine ⟨g1, fun i hi => ?_, g2⟩
    have := List.all_eq_true.1 this.1 i (by simpa using hi)
    rw [List.any_eq_true] at this
    obtain ⟨x, hx, he⟩ := this
    rw [Nat.eq_of_beq_eq_true he]; exact hx
  refine wpAny_sound ops.size t _ a _ (draws_any hed hef ops.size _ ?_ ?_ ?_ Ls (fun _ => true) a _ hg (fun b _ => fullB_at hful b) (fun l hl => ?_) fun a w' h => hR a w' ⟨h.os, h.tape, h.output⟩)
  · rw [rest_all]; simp
  · simp
  · intro j o hj hL
    exfalso
    simp only [Array.getD_eq_getD_getElem?, Array.getElem?_replicate] at hL
    split at hL <;> simp at hL
  · have : left (Array.replicate ops.size false) l = l := by
      unfold left
      rw [List.filter_eq_self]
      intro i hi
      have : i < ops.size := (hg l hl).lt i hi
      simp [Array.getD_eq_getD_getElem?, this]
    rw [this]
    exact h l hl

end Go.Vc

namespace Go.Vc

/-! ### Regions whose effects lie any way: what is known of them is told for each set of those that are done -/

/-- An order that may be drawn. -/
inductive Topo (ops : Array Oper) : Array Bool → List Nat → Prop where
  | nil {listed : Array Bool} : rest ops listed = [] → Topo ops listed []
  | cons {listed : Array Bool} {i : Nat} {s : List Nat} : i < ops.size → listed.getD i true = false → (∀ o, ops[i]? = some o → ∀ e ∈ o.after.toList, bnds e = true → listed.getD e.on false = true) → Topo ops (listed.setIfInBounds i true) s → Topo ops listed (i :: s)

def clz (ops : Array Oper) (listed : Array Bool) : Prop := closed ops fun k => listed.getD k false = true

theorem clz_set {ops : Array Oper} {listed : Array Bool} (hs : listed.size = ops.size) (hc : clz ops listed) {i : Nat} (hi : i < ops.size)
    (hd : ∀ o, ops[i]? = some o → ∀ e ∈ o.after.toList, bnds e = true → listed.getD e.on false = true) : clz ops (listed.setIfInBounds i true) := by
  intro j o hj hL e he hb
  rw [getD_set (by omega)] at hL ⊢
  split
  · rfl
  · split at hL
    · rename_i e3; subst e3; exact hd o hj e he hb
    · exact hc j o hj hL e he hb

theorem ready_some {ops : Array Oper} (hed : edgesOk 0 ops.toList = true) {listed : Array Bool} (hs : listed.size = ops.size) {i : Nat} {r : List Nat} (hr : rest ops listed = i :: r) : i ∈ Region.ready .any ops listed := by
  have hedge : ∀ {i : Nat} {o : Oper}, ops[i]? = some o → ∀ e ∈ o.after.toList, bnds e = true → e.on < i := by
    intro i o ho e he hb
    have := edgesOk_at hed (show ops.toList[i]? = some o by simpa using ho) e he hb
    omega
  have hmem : i ∈ rest ops listed := by rw [hr]; simp
  have hpw : (rest ops listed).Pairwise (· < ·) := List.Pairwise.filter _ List.pairwise_lt_range
  rw [hr, List.pairwise_cons] at hpw
  simp only [rest, List.mem_filter, List.mem_range] at hmem
  unfold Region.ready
  rw [List.mem_filter]
  refine ⟨by simpa using hmem.1, ?_⟩
  have ho : ops[i]? = some ops[i] := Array.getElem?_eq_getElem hmem.1
  rw [ho, hmem.2]
  simp only [Option.map_some, Option.getD_some, Bool.true_and, Array.all_eq_true_iff_forall_mem]
  intro e he
  by_cases hbn : bnds e = true
  case neg => rw [bnds_eq]; simp [hbn]
  have h1 := hedge ho e (by simpa using he) hbn
  have : listed.getD e.on false = true := by
    cases hc : listed.getD e.on false with
    | true => rfl
    | false =>
      exfalso
      have hlt : e.on < listed.size := by omega
      have e2 : listed.getD e.on true = false := by
        rw [Array.getD_eq_getD_getElem?, Array.getElem?_eq_getElem hlt] at hc ⊢
        exact hc
      have h3 : e.on ∈ rest ops listed := by simp only [rest, List.mem_filter, List.mem_range]; exact ⟨by omega, by simp [e2]⟩
      rw [hr] at h3
      rcases List.mem_cons.1 h3 with h4 | h4
      · omega
      · have := hpw.1 _ h4; omega
  rw [this]
  simp

theorem topo_go {ops : Array Oper} (hed : edgesOk 0 ops.toList = true) : ∀ (fuel t : Nat) (listed : Array Bool), (rest ops listed).length = fuel → listed.size = ops.size → Topo ops listed (Region.linearise.go .any ops fuel t listed []) := by
  intro fuel
  induction fuel with
  | zero =>
    intro t listed hlen hs
    exact .nil (List.length_eq_zero_iff.1 hlen)
  | succ fuel ih =>
    intro t listed hlen hs
    simp only [Region.linearise.go]
    change Topo ops listed (match (Region.ready .any ops listed)[t % (Region.ready .any ops listed).length]? with
      | some i => Region.linearise.go .any ops fuel (t / (Region.ready .any ops listed).length) (listed.setIfInBounds i true) [i]
      | none => [].reverse)
    have hpos : 0 < (Region.ready .any ops listed).length := by
      cases hr : rest ops listed with
      | nil => rw [hr] at hlen; simp at hlen
      | cons i r => exact List.length_pos_of_mem (ready_some hed hs hr)
    cases hi : (Region.ready .any ops listed)[t % (Region.ready .any ops listed).length]? with
    | none =>
      rw [List.getElem?_eq_none_iff] at hi
      have := Nat.mod_lt t hpos
      omega
    | some i =>
      simp only []
      rw [linearise_go_acc, List.reverse_singleton, List.singleton_append]
      have hm := List.mem_of_getElem? hi
      have hi' := hm
      unfold Region.ready at hi'
      simp only [List.mem_filter, List.mem_range, Bool.and_eq_true] at hi'
      obtain ⟨hlt, hun, hall⟩ := hi'
      have hun' : listed.getD i true = false := by simpa using hun
      refine .cons hlt hun' ?_ (ih _ _ ?_ (by simpa using hs))
      · intro o ho e he hb
        rw [ho] at hall
        simp only [Option.map_some, Option.getD_some, Array.all_eq_true_iff_forall_mem] at hall
        have := hall e (by simpa using he)
        rw [bnds_eq, hb] at this
        simpa using this
      · have hmem : i ∈ rest ops listed := by simp only [rest, List.mem_filter, List.mem_range]; exact ⟨hlt, by simp [hun']⟩
        obtain ⟨A, B, hr⟩ := List.append_of_mem hmem
        rw [rest_set hs hr]
        rw [hr] at hlen
        simp only [List.length_append, List.length_cons] at hlen ⊢
        omega

theorem Topo.mem {ops : Array Oper} {listed : Array Bool} {s : List Nat} (h : Topo ops listed s) : listed.size = ops.size → ∀ i, i ∈ s ↔ i ∈ rest ops listed := by
  induction h with
  | nil h => intro _ i; rw [h]
  | @cons listed i s hi hu hd _ ih =>
    intro hs j
    have hmem : i ∈ rest ops listed := by simp only [rest, List.mem_filter, List.mem_range]; exact ⟨hi, by simp [hu]⟩
    obtain ⟨A, B, hr⟩ := List.append_of_mem hmem
    have h1 := ih (by simpa using hs) j
    rw [rest_set hs hr] at h1
    rw [hr]
    simp only [List.mem_cons, List.mem_append, h1]
    constructor
    · rintro (h | h | h) <;> simp [h]
    · rintro (h | h | h) <;> simp [h]

theorem Topo.nodup {ops : Array Oper} {listed : Array Bool} {s : List Nat} (h : Topo ops listed s) : listed.size = ops.size → s.Nodup := by
  induction h with
  | nil h => intro _; exact List.nodup_nil
  | @cons listed i s hi hu hd ht ih =>
    intro hs
    refine List.nodup_cons.2 ⟨fun hm => ?_, ih (by simpa using hs)⟩
    rw [ht.mem (by simpa using hs)] at hm
    simp only [rest, List.mem_filter, List.mem_range] at hm
    have h2 := hm.2
    rw [getD_set (by omega), if_pos rfl] at h2
    simp at h2

/-- What must come ahead does. -/
theorem Topo.ahead {ops : Array Oper} {listed : Array Bool} {s : List Nat} (h : Topo ops listed s) : listed.size = ops.size → clz ops listed → ∀ i ∈ s, ∀ m, (masks ops.toList [])[i]? = some m → ∀ k, Nat.testBit m k = true → listed.getD k false = true ∨ k = i ∨ [k, i].Sublist s := by
  induction h with
  | nil h => intro _ _ i hi; simp at hi
  | @cons listed j s hj hu hd ht ih =>
    intro hs hc i hi m hm k hb
    rcases List.mem_cons.1 hi with rfl | his
    · rcases masks_not hc hd hm hb with h | h
      · exact .inl h
      · exact .inr (.inl h)
    · rcases ih (by simpa using hs) (clz_set hs hc hj hd) i his m hm k hb with h | h | h
      · rw [getD_set (by omega)] at h
        split at h
        · rename_i e
          subst e
          exact .inr (.inr (List.Sublist.cons_cons _ (List.singleton_sublist.2 his)))
        · exact .inl h
      · exact .inr (.inl h)
      · exact .inr (.inr (h.cons _))

/-- One order for another. -/
theorem RL_sort {E : Env} {ops : Array Oper} {Q : Act → Heap → Prop} : ∀ (s l : List Nat), l.Perm s → s.Nodup → l.Pairwise (fun k i => [k, i].Sublist s ∨ pairOk E ops k i) → ∀ {a : Act} {h : Heap}, RL E ops Q l a h → RL E ops Q s a h
  | [], l, hp, _, _, a, h, hh => by
    rw [List.perm_nil.1 hp] at hh
    exact hh
  | i :: s, l, hp, hn, hw, a, h, hh => by
    have him : i ∈ l := hp.mem_iff.2 (by simp)
    obtain ⟨A, B, rfl⟩ := List.append_of_mem him
    rw [List.nodup_cons] at hn
    have hwA := pw_split hw
    have hlN : (A ++ i :: B).Nodup := hp.nodup_iff.2 (List.nodup_cons.2 hn)
    have hiAB : ∀ k ∈ A ++ B, k ≠ i := by
      intro k hk e
      subst e
      rw [List.nodup_append] at hlN
      rcases List.mem_append.1 hk with hk | hk
      · exact hlN.2.2 k hk k (by simp) rfl
      · exact (List.nodup_cons.1 hlN.2.1).1 hk
    have h1 : RL E ops Q (i :: (A ++ B)) a h := RL_front A (fun k hk => by
      rcases hwA k hk with h | h
      · exfalso
        have hk0 := hiAB k (by simp [hk])
        cases h with
        | cons _ h =>
          have := h.subset (by simp : i ∈ [k, i])
          exact hn.1 this
        | cons_cons _ h => exact hk0 rfl
      · exact h) hh
    have hp2 : (A ++ B).Perm s := by
      have := (List.perm_middle (a := i) (l₁ := A) (l₂ := B)).symm.trans hp
      exact this.cons_inv
    have hw2 : (A ++ B).Pairwise (fun k i => [k, i].Sublist s ∨ pairOk E ops k i) := by
      have : (A ++ B).Sublist (A ++ i :: B) := List.Sublist.append (List.Sublist.refl _) (List.sublist_cons_self _ _)
      refine ((hw.sublist this).imp_of_mem ?_)
      rintro k j hk hj (h | h)
      · left
        have h1 := hiAB k hk
        cases h with
        | cons _ h => exact h
        | cons_cons _ h => exact absurd rfl h1
      · exact .inr h
    simp only [RL] at h1 ⊢
    split at h1
    · exact h1.elim
    · exact stepR_mono (fun v h' hk => RL_sort s (A ++ B) hp2 hn.2 hw2 hk) h1

theorem RL_append {E : Env} {ops : Array Oper} {Q : Act → Heap → Prop} {B : List Nat} : ∀ (A : List Nat) {a : Act} {h : Heap}, RL E ops (RL E ops Q B) A a h → RL E ops Q (A ++ B) a h
  | [], a, h, hh => hh
  | i :: A, a, h, hh => by
    simp only [List.cons_append, RL] at hh ⊢
    split at hh
    · exact hh.elim
    · exact stepR_mono (fun v h' hk => RL_append A hk) hh

theorem order_ok {E : Env} (hE : E.Ok) {ops : Array Oper} {id : Nat} (hed : edgesOk 0 ops.toList = true) {Q : Exit → Act → World → Prop} {R : Act → Heap → Prop} {a : Act} {w : World} (hR : ∀ a w', Same w w' → R a w'.heap → Q .normal a w')
    (h : ∀ s, Topo ops (Array.replicate ops.size false) s → RL E ops R s a w.heap) : (Code.region id ops true).wp E.P Q a w := by
  refine wp_region_draw fun t => ?_
  have hs : Region.schedule (E.P.follows .mixedOrders) ops t = Region.linearise .any ops t := by
    unfold Region.schedule
    rw [hE.mixed]
    simp
  rw [hs]
  unfold Region.linearise
  refine RL_wpOps _ a _ (h _ (topo_go hed _ t _ ?_ (by simp))) fun a w' h => hR a w' ⟨h.os, h.tape, h.output⟩
  rw [rest_all]
  simp

end Go.Vc

namespace Go.Vc
variable {ds : List Deferred}

def putK (dst : Option Nat) (n : Nat) (v : Value) (m : M) (K : M → Prop) : Prop := match dst with
  | none => K m
  | some d => match Nat.blt d n with
    | true => K ((d, v) :: m)
    | false => False

def picks (all : List Oper) : List Nat → List Oper
  | [] => []
  | i :: r => match nth all i with
    | some o => o :: picks all r
    | none => picks all r

def guardK (all : List Oper) (g : Option (Nat × Bool)) (m : M) (yes no : M → Prop) : Prop := match g with
  | none => yes m
  | some (j, want) => match nth all j with
    | none => no m
    | some oj => match oj.dst with
      | none => no m
      | some d => match look m d with
        | none => False
        | some (.bool b) => iteB b (match want with
            | true => yes ((d, .bool true) :: m)
            | false => no ((d, .bool true) :: m)) (match want with
            | true => no ((d, .bool false) :: m)
            | false => yes ((d, .bool false) :: m))
        | some _ => no m

/-- The operations one behind the other (by the list's own recursor: what Lean's elaborator and its kernel make of it is one). -/
def vcOps (E : Env) (n : Nat) (all : List Oper) (l : List Oper) : (M → Heap → Prop) → M → Heap → Prop :=
  List.rec (motive := fun _ => (M → Heap → Prop) → M → Heap → Prop) (fun Q m h => Q m h)
    (fun o _ ih Q m h => guardK all o.guard m
      (fun m => vcOp E o m h fun v h' => putK o.dst n v m fun m' => ih Q m' h')
      (fun m => putK o.dst n undef m fun m' => ih Q m' h)) l

theorem vcOps_cons {E : Env} {n : Nat} {all : List Oper} {o : Oper} {r : List Oper} {Q : M → Heap → Prop} {m : M} {h : Heap} :
    vcOps E n all (o :: r) Q m h = guardK all o.guard m
      (fun m => vcOp E o m h fun v h' => putK o.dst n v m fun m' => vcOps E n all r Q m' h')
      (fun m => putK o.dst n undef m fun m' => vcOps E n all r Q m' h) := rfl

theorem St.put' {n : Nat} {m : M} {a : Act} (hs : St ds n m a) {dst : Option Nat} {v : Value} {K : M → Prop} (h : putK dst n v m K) :
    ∃ m', St ds n m' (a.put dst v) ∧ K m' := by
  unfold putK at h
  split at h
  · exact ⟨m, hs, h⟩
  · rename_i d
    split at h
    · rename_i hd
      exact ⟨_, hs.put (by simpa [Nat.blt_eq] using hd), h⟩
    · exact h.elim

theorem St.same {n : Nat} {m : M} {a : Act} (hs : St ds n m a) {d : Nat} {v : Value} (h : look m d = some v) : St ds n ((d, v) :: m) a := by
  refine ⟨hs.defers, hs.size, fun t u hu => ?_⟩
  simp only [look] at hu
  split at hu
  · rename_i hb
    have := Nat.eq_of_beq_eq_true hb
    subst this
    simp only [Option.some.injEq] at hu
    subst hu
    exact hs.has _ _ h
  · exact hs.has _ _ hu

theorem guard_ok {n : Nat} {m : M} {a : Act} (hs : St ds n m a) {ops : Array Oper} {o : Oper} {yes no : M → Prop} (h : guardK ops.toList o.guard m yes no) :
    ∃ m', St ds n m' a ∧ ((Region.wanted o (yielded ops a.tmps) = true ∧ yes m') ∨ (Region.wanted o (yielded ops a.tmps) = false ∧ no m')) := by
  unfold guardK at h
  unfold Region.wanted
  split at h
  · rename_i hg; rw [hg]; exact ⟨m, hs, .inl ⟨rfl, h⟩⟩
  · rename_i j want hg
    rw [hg]
    simp only [yielded]
    split at h
    · rename_i hn
      rw [nth_arr] at hn
      rw [hn]
      exact ⟨m, hs, .inr ⟨by simp, h⟩⟩
    · rename_i oj hn
      rw [nth_arr] at hn
      rw [hn]
      split at h
      · rename_i hd; rw [Option.bind_some, hd]; exact ⟨m, hs, .inr ⟨by simp, h⟩⟩
      · rename_i d hd
        rw [Option.bind_some, hd]
        split at h
        · exact h.elim
        · rename_i b hl
          have ht := hs.has _ _ hl
          simp only [Option.bind_some, ht]
          cases b with
          | true =>
            refine ⟨_, hs.same hl, ?_⟩
            cases want with
            | true => exact .inl ⟨by simp, h⟩
            | false => exact .inr ⟨by simp, h⟩
          | false =>
            refine ⟨_, hs.same hl, ?_⟩
            cases want with
            | true => exact .inr ⟨by simp, h⟩
            | false => exact .inl ⟨by simp, h⟩
        · rename_i v hv hl
          have ht := hs.has _ _ hl
          simp only [Option.bind_some, ht]
          refine ⟨m, hs, .inr ⟨?_, h⟩⟩
          cases v <;> first | exact absurd rfl (hv _) | simp

def LiftA (ds : List Deferred) (n : Nat) (Q : M → Heap → Prop) : Act → Heap → Prop := fun a h => ∃ m, St ds n m a ∧ Q m h

theorem vcOps_ok {E : Env} (hE : E.Ok) {n : Nat} {ops : Array Oper} {Q : M → Heap → Prop} : ∀ (l : List Oper) (k : Nat), (∀ j, l[j]? = ops[k + j]?) → ∀ {m : M} {a : Act} {h : Heap}, St ds n m a →
    vcOps E n ops.toList l Q m h → RL E ops (LiftA ds n Q) (List.range' k l.length) a h
  | [], k, _, m, a, h, hs, hh => ⟨m, hs, hh⟩
  | o :: r, k, hl, m, a, h, hs, hh => by
    have ho : ops[k]? = some o := by simpa using (hl 0).symm
    have hl' : ∀ j, r[j]? = ops[k + 1 + j]? := fun j => by
      have := hl (j + 1)
      simp only [List.getElem?_cons_succ] at this
      rw [this]
      congr 1
      omega
    simp only [List.length_cons, List.range'_succ, RL, ho]
    rw [vcOps_cons] at hh
    obtain ⟨m', hs', h1⟩ := guard_ok hs hh
    unfold stepR
    rcases h1 with ⟨hw, h1⟩ | ⟨hw, h1⟩
    · rw [if_pos hw]
      refine vcOp_ok hE hs' h1 fun v h' hk => ?_
      obtain ⟨m2, hs2, hk2⟩ := hs'.put' hk
      exact vcOps_ok hE r (k + 1) hl' hs2 hk2
    · rw [if_neg (by rw [hw]; simp)]
      obtain ⟨m2, hs2, hk2⟩ := hs'.put' h1
      exact vcOps_ok hE r (k + 1) hl' hs2 hk2

theorem vcRegion_ok {E : Env} (hE : E.Ok) {n : Nat} {ops : Array Oper} {Q : M → Heap → Prop} {m : M} {a : Act} {h : Heap} (hs : St ds n m a)
    (hh : vcOps E n ops.toList ops.toList Q m h) : RL E ops (LiftA ds n Q) (List.range ops.size) a h := by
  have := vcOps_ok hE ops.toList 0 (fun j => by simp) hs hh
  rw [List.range_eq_range']
  simpa using this

theorem vcOps_any {E : Env} (hE : E.Ok) {n : Nat} {ops : Array Oper} {Q : M → Heap → Prop} : ∀ {l : List Nat}, (∀ i ∈ l, i < ops.size) → ∀ {m : M} {a : Act} {h : Heap}, St ds n m a →
    vcOps E n ops.toList (picks ops.toList l) Q m h → RL E ops (LiftA ds n Q) l a h
  | [], _, m, a, h, hs, hh => ⟨m, hs, hh⟩
  | i :: r, hl, m, a, h, hs, hh => by
    have hi : i < ops.size := hl i (by simp)
    have ho : ops[i]? = some ops[i] := Array.getElem?_eq_getElem hi
    have hn : nth ops.toList i = some ops[i] := by rw [nth_toList, Array.getElem?_toList]; exact ho
    simp only [picks, hn] at hh
    simp only [RL, ho]
    rw [vcOps_cons] at hh
    obtain ⟨m', hs', h1⟩ := guard_ok hs hh
    unfold stepR
    rcases h1 with ⟨hw, h1⟩ | ⟨hw, h1⟩
    · rw [if_pos hw]
      refine vcOp_ok hE hs' h1 fun v h' hk => ?_
      obtain ⟨m2, hs2, hk2⟩ := hs'.put' hk
      exact vcOps_any hE (fun i hi => hl i (by simp [hi])) hs2 hk2
    · rw [if_neg (by rw [hw]; simp)]
      obtain ⟨m2, hs2, hk2⟩ := hs'.put' h1
      exact vcOps_any hE (fun i hi => hl i (by simp [hi])) hs2 hk2

theorem look_cons {d : Nat} {v : Value} {m : M} {t : Nat} {u : Value} (h : look ((d, v) :: m) t = some u) : (d = t ∧ v = u) ∨ look m t = some u := by
  simp only [look] at h
  split at h
  · rename_i hb
    exact .inl ⟨Nat.eq_of_beq_eq_true hb, by simpa using h⟩
  · exact .inr h

/-! ### Effects in any order -/

def keyN : List (Nat × List Nat) → List Nat
  | [] => []
  | x :: r => x.1 :: keyN r

def sets : List Nat → (Nat → Bool) → Nat → Bool
  | [], D, j => D j
  | i :: r, D, j => match Nat.beq j i with
    | true => true
    | false => sets r D j

def clr (i : Nat) (D : Nat → Bool) (j : Nat) : Bool := match Nat.beq j i with
  | true => false
  | false => D j

def clrs : List Nat → (Nat → Bool) → Nat → Bool
  | [], D, j => D j
  | i :: r, D, j => match Nat.beq j i with
    | true => false
    | false => clrs r D j

/-- Which must come behind. -/
def succN (i : Nat) : List (Nat × List Nat) → List Nat
  | [] => []
  | x :: r => match memN x.2 i with
    | true => x.1 :: succN i r
    | false => succN i r

def setV (i : Nat) (v : Value) (f : Nat → Value) (j : Nat) : Value := match Nat.beq j i with
  | true => v
  | false => f j

def startD (ks : List (Nat × List Nat)) (j : Nat) : Bool := !(memN (keyN ks) j)

def kM (all : List Oper) (val : Nat → Value) (m : M) : List Nat → M
  | [] => m
  | j :: r => match nth all j with
    | some o => match o.dst with
      | some d => (d, val j) :: kM all val m r
      | none => kM all val m r
    | none => kM all val m r

def dstsN (all : List Oper) : List Nat → List Nat
  | [] => []
  | j :: r => match nth all j with
    | some o => match o.dst with
      | some d => d :: dstsN all r
      | none => dstsN all r
    | none => dstsN all r

def offM (ds : List Nat) : M → M
  | [] => []
  | (d, v) :: r => match memN ds d with
    | true => offM ds r
    | false => (d, v) :: offM ds r

def putD (dst : Option Nat) (n : Nat) (K : Prop) : Prop := match dst with
  | none => K
  | some d => match Nat.blt d n with
    | true => K
    | false => False

def eachK (f : Nat × List Nat → Prop) : List (Nat × List Nat) → Prop
  | [] => True
  | x :: r => f x ∧ eachK f r

def oneK (E : Env) (n : Nat) (all : List Oper) (m : M) (ks : List (Nat × List Nat)) (I : (Nat → Bool) → (Nat → Value) → Heap → Prop) (x : Nat × List Nat) : Prop :=
  ∀ D val h, I (clr x.1 (sets x.2 (clrs (succN x.1 ks) D))) val h → match nth all x.1 with
    | some o => vcOp E o (kM all val m x.2) h fun v h' => putD o.dst n (I (sets (x.1 :: x.2) (clrs (succN x.1 ks) D)) (setV x.1 v val) h')
    | none => False

/-- What is known, of whichever effects are done. -/
structure KeysK (E : Env) (n : Nat) (all : List Oper) (ks : List (Nat × List Nat)) (post : List Nat) (Q : M → Heap → Prop) (m : M) (h : Heap) : Prop where
  out : ∃ (I : (Nat → Bool) → (Nat → Value) → Heap → Prop) (val : Nat → Value), I (startD ks) val h ∧ eachK (oneK E n all (offM (dstsN all (keyN ks)) m) ks I) ks ∧
    ∀ val h, I (fun _ => true) val h → vcOps E n all (picks all post) Q (kM all val (offM (dstsN all (keyN ks)) m) (keyN ks)) h

def pairKs (E : Env) (ops : Array Oper) (all : List Oper) (ks : List Nat) (ms : List Nat) (k i : Nat) : Bool :=
  (memN ks k && memN ks i) || match nth ms i, nth all k, nth all i with
    | some m, some x, some y => Nat.testBit m k || commB E ops x y
    | _, _, _ => false

def ordKs (E : Env) (ops : Array Oper) (all : List Oper) (ks : List Nat) (ms : List Nat) : List Nat → List Nat → Bool
  | _, [] => true
  | pre, i :: r => Nat.blt i ops.size && (pre.all fun k => !(Nat.beq k i) && pairKs E ops all ks ms k i) && ordKs E ops all ks ms (i :: pre) r

def nodupN : List Nat → Bool
  | [] => true
  | x :: r => !(memN r x) && nodupN r

def plainKey (all : List Oper) (ms : List Nat) (ks : List Nat) (x : Nat × List Nat) : Bool := match nth all x.1, nth ms x.1 with
  | some o, some m => (match o.guard with
    | none => true
    | some _ => false) && x.2.all fun j => memN ks j && Nat.testBit m j && !(Nat.beq j x.1)
  | _, _ => false

def keysOK (E : Env) (ops : Array Oper) (pre : List Nat) (ks : List (Nat × List Nat)) (post : List Nat) : Bool :=
  edgesOk 0 ops.toList && ((List.range ops.size).all fun i => (pre ++ (keyN ks ++ post)).any (Nat.beq i)) && ordKs E ops ops.toList (keyN ks) (masks ops.toList []) [] (pre ++ (keyN ks ++ post)) &&
    nodupN (dstsN ops.toList (keyN ks)) && ks.all (plainKey ops.toList (masks ops.toList []) (keyN ks))

theorem memN_iff : ∀ {l : List Nat} {d : Nat}, memN l d = true ↔ d ∈ l
  | [], d => by simp [memN]
  | x :: r, d => by
    simp only [memN, List.mem_cons]
    split
    · rename_i h
      have := Nat.eq_of_beq_eq_true h
      simp [this]
    · rename_i h
      rw [memN_iff (l := r)]
      have := beq_ne h
      constructor
      · exact .inr
      · rintro (h | h)
        · exact absurd h.symm this
        · exact h

structure PairKs (E : Env) (ops : Array Oper) (ks : List Nat) (k i : Nat) : Prop where
  ne : k ≠ i
  or : (k ∈ ks ∧ i ∈ ks) ∨ ((∃ m, (masks ops.toList [])[i]? = some m ∧ Nat.testBit m k = true) ∨ pairOk E ops k i)

theorem ordKs_pw {E : Env} {ops : Array Oper} {ks : List Nat} : ∀ {l pre : List Nat}, ordKs E ops ops.toList ks (masks ops.toList []) pre l = true →
    (∀ i ∈ l, i < ops.size) ∧ l.Pairwise (PairKs E ops ks) ∧ ∀ k ∈ pre, ∀ i ∈ l, PairKs E ops ks k i
  | [], pre, _ => ⟨by simp, List.Pairwise.nil, by simp⟩
  | i :: r, pre, h => by
    simp only [ordKs, Bool.and_eq_true, List.all_eq_true, Nat.blt_eq] at h
    obtain ⟨⟨h1, h2⟩, h3⟩ := h
    obtain ⟨g1, g2, g3⟩ := ordKs_pw h3
    have hp : ∀ k ∈ pre, PairKs E ops ks k i := by
      intro k hk
      have := h2 k hk
      simp only [pairKs, Bool.or_eq_true, Bool.and_eq_true, memN_iff] at this
      refine ⟨fun e => ?_, ?_⟩
      · subst e; simp [Nat.beq_refl] at this
      · rcases this.2 with hc | hc
        · exact .inl hc
        · right
          split at hc
          · rename_i m x y hm hx hy
            rw [nth_toList] at hm hx hy
            rw [Bool.or_eq_true] at hc
            rcases hc with hc | hc
            · exact .inl ⟨m, hm, hc⟩
            · right
              intro x' y' hx' hy'
              have e1 : x = x' := by rw [Array.getElem?_toList] at hx; rw [hx] at hx'; simpa using hx'
              have e2 : y = y' := by rw [Array.getElem?_toList] at hy; rw [hy] at hy'; simpa using hy'
              rw [← e1, ← e2]; exact hc
          · simp at hc
    refine ⟨?_, List.pairwise_cons.2 ⟨fun j hj => g3 i (by simp) j hj, g2⟩, ?_⟩
    · intro j hj
      rcases List.mem_cons.1 hj with rfl | hj
      · exact h1
      · exact g1 j hj
    · intro k hk j hj
      rcases List.mem_cons.1 hj with rfl | hj
      · exact hp k hk
      · exact g3 k (by simp [hk]) j hj

theorem RL_mono {E : Env} {ops : Array Oper} {Q Q' : Act → Heap → Prop} (hq : ∀ a h, Q a h → Q' a h) : ∀ {l : List Nat} {a : Act} {h : Heap}, RL E ops Q l a h → RL E ops Q' l a h
  | [], a, h, hh => hq _ _ hh
  | i :: r, a, h, hh => by
    simp only [RL] at hh ⊢
    split at hh
    · exact hh.elim
    · exact stepR_mono (fun v h' hk => RL_mono hq hk) hh

theorem look_kM {all : List Oper} {val : Nat → Value} {m : M} {t : Nat} {v : Value} : ∀ {l : List Nat}, look (kM all val m l) t = some v → look m t = some v ∨ ∃ j ∈ l, ∃ o, nth all j = some o ∧ o.dst = some t ∧ v = val j
  | [], h => .inl h
  | j :: r, h => by
    simp only [kM] at h
    split at h
    · rename_i o ho
      split at h
      · rename_i d hd
        rcases look_cons h with ⟨rfl, rfl⟩ | h
        · exact .inr ⟨j, by simp, o, ho, hd, rfl⟩
        · rcases look_kM h with h | ⟨k, hk, h⟩
          · exact .inl h
          · exact .inr ⟨k, by simp [hk], h⟩
      · rcases look_kM h with h | ⟨k, hk, h⟩
        · exact .inl h
        · exact .inr ⟨k, by simp [hk], h⟩
    · rcases look_kM h with h | ⟨k, hk, h⟩
      · exact .inl h
      · exact .inr ⟨k, by simp [hk], h⟩

theorem mem_dstsN {all : List Oper} {d j : Nat} {o : Oper} (ho : nth all j = some o) (hd : o.dst = some d) : ∀ {l : List Nat}, j ∈ l → d ∈ dstsN all l
  | [], h => by simp at h
  | k :: r, h => by
    simp only [dstsN]
    rcases List.mem_cons.1 h with rfl | h
    · rw [ho]
      simp only [hd]
      simp
    · have := mem_dstsN ho hd h
      split
      · split
        · simp [this]
        · exact this
      · exact this

theorem nodupN_iff : ∀ {l : List Nat}, nodupN l = true → l.Nodup
  | [], _ => List.nodup_nil
  | x :: r, h => by
    simp only [nodupN, Bool.and_eq_true, Bool.not_eq_true'] at h
    refine List.nodup_cons.2 ⟨fun hm => ?_, nodupN_iff h.2⟩
    rw [memN_iff.2 hm] at h
    cases h.1

/-- Two keys write two slots. -/
theorem dsts_apart {all : List Oper} : ∀ {l : List Nat}, (dstsN all l).Nodup → l.Nodup → ∀ {j k : Nat}, j ∈ l → k ∈ l → j ≠ k → ∀ {o p : Oper} {d : Nat}, nth all j = some o → nth all k = some p → o.dst = some d → p.dst = some d → False
  | [], _, _, j, k, hj, _, _ => by simp at hj
  | x :: r, hn, hl, j, k, hj, hk, hjk => by
    rename_i o p d
    intro ho hp hd he
    have hn' : (dstsN all r).Nodup := by
      simp only [dstsN] at hn
      split at hn
      · split at hn
        · exact (List.nodup_cons.1 hn).2
        · exact hn
      · exact hn
    rw [List.nodup_cons] at hl
    rcases List.mem_cons.1 hj with e1 | hj1
    · rcases List.mem_cons.1 hk with e2 | hk1
      · exact hjk (e1.trans e2.symm)
      · subst e1
        simp only [dstsN, ho, hd] at hn
        exact (List.nodup_cons.1 hn).1 (mem_dstsN hp he hk1)
    · rcases List.mem_cons.1 hk with e2 | hk1
      · subst e2
        simp only [dstsN, hp, he] at hn
        exact (List.nodup_cons.1 hn).1 (mem_dstsN ho hd hj1)
      · exact dsts_apart hn' hl.2 hj1 hk1 hjk ho hp hd he

theorem look_offM {ds : List Nat} : ∀ {m : M} {t : Nat} {v : Value}, look (offM ds m) t = some v → t ∉ ds
  | [], t, v, h => by simp [offM, look] at h
  | (d, u) :: r, t, v, h => by
    simp only [offM] at h
    split at h
    · exact look_offM h
    · rename_i hd
      rcases look_cons h with ⟨rfl, _⟩ | h
      · intro hm
        rw [memN_iff.2 hm] at hd
        cases hd
      · exact look_offM h

theorem look_offM_m {ds : List Nat} : ∀ {m : M} {t : Nat} {v : Value}, look (offM ds m) t = some v → look m t = some v
  | [], t, v, h => by simp [offM, look] at h
  | (d, u) :: r, t, v, h => by
    have hnot := look_offM h
    simp only [offM] at h
    simp only [look]
    split at h
    · rename_i hd
      split
      · rename_i e
        have := Nat.eq_of_beq_eq_true e
        subst this
        exact absurd (memN_iff.1 hd) hnot
      · exact look_offM_m h
    · simp only [look] at h
      split at h
      · exact h
      · exact look_offM_m h

theorem keyN_mem : ∀ {ks : List (Nat × List Nat)} {i : Nat}, i ∈ keyN ks → ∃ x ∈ ks, x.1 = i
  | [], i, h => by simp [keyN] at h
  | x :: r, i, h => by
    simp only [keyN, List.mem_cons] at h
    rcases h with rfl | h
    · exact ⟨x, by simp, rfl⟩
    · obtain ⟨y, hy, e⟩ := keyN_mem h
      exact ⟨y, by simp [hy], e⟩

theorem eachK_mem {f : Nat × List Nat → Prop} : ∀ {ks : List (Nat × List Nat)}, eachK f ks → ∀ x ∈ ks, f x
  | [], _, x, hx => by simp at hx
  | y :: r, h, x, hx => by
    rcases List.mem_cons.1 hx with rfl | hx
    · exact h.1
    · exact eachK_mem h.2 x hx

theorem sets_eq : ∀ {l : List Nat} {D : Nat → Bool} {j : Nat}, sets l D j = (memN l j || D j)
  | [], D, j => by simp [sets, memN]
  | i :: r, D, j => by
    simp only [sets, memN]
    cases h : Nat.beq j i with
    | true =>
      have := Nat.eq_of_beq_eq_true h
      subst this
      rw [Nat.beq_refl]
      rfl
    | false =>
      have h2 : Nat.beq i j = false := by
        cases h2 : Nat.beq i j with
        | false => rfl
        | true => exact absurd (Nat.eq_of_beq_eq_true h2).symm (beq_ne h)
      rw [h2]
      exact sets_eq

theorem clrs_eq : ∀ {l : List Nat} {D : Nat → Bool} {j : Nat}, clrs l D j = (!(memN l j) && D j)
  | [], D, j => by simp [clrs, memN]
  | i :: r, D, j => by
    simp only [clrs, memN]
    cases h : Nat.beq j i with
    | true =>
      have := Nat.eq_of_beq_eq_true h
      subst this
      rw [Nat.beq_refl]
      rfl
    | false =>
      have h2 : Nat.beq i j = false := by
        cases h2 : Nat.beq i j with
        | false => rfl
        | true => exact absurd (Nat.eq_of_beq_eq_true h2).symm (beq_ne h)
      rw [h2]
      exact clrs_eq

theorem succN_mem {i j : Nat} : ∀ {ks : List (Nat × List Nat)}, j ∈ succN i ks → ∃ x ∈ ks, x.1 = j ∧ i ∈ x.2
  | [], h => by simp [succN] at h
  | x :: r, h => by
    simp only [succN] at h
    split at h
    · rename_i hm
      rcases List.mem_cons.1 h with rfl | h
      · exact ⟨x, by simp, rfl, memN_iff.1 hm⟩
      · obtain ⟨y, hy, e⟩ := succN_mem h
        exact ⟨y, by simp [hy], e⟩
    · obtain ⟨y, hy, e⟩ := succN_mem h
      exact ⟨y, by simp [hy], e⟩

theorem mem_keyN : ∀ {ks : List (Nat × List Nat)} {x : Nat × List Nat}, x ∈ ks → x.1 ∈ keyN ks
  | [], x, h => by simp at h
  | y :: r, x, h => by
    simp only [keyN, List.mem_cons]
    rcases List.mem_cons.1 h with rfl | h
    · exact .inl rfl
    · exact .inr (mem_keyN h)

/-- Of two one behind the other the first isn't behind. -/
theorem pair_dn {p dn r : List Nat} {i j : Nat} (hdn : dn ++ i :: r = p) (hpn : p.Nodup) (hsub : [i, j].Sublist p) (_ : i ≠ j) : j ∉ dn := by
  intro hj
  subst hdn
  rw [List.nodup_append, List.nodup_cons] at hpn
  have hidn : i ∉ dn := fun hm => hpn.2.2 i hm i (by simp) rfl
  rw [List.sublist_append_iff] at hsub
  obtain ⟨l1, l2, e, s1, s2⟩ := hsub
  cases l1 with
  | nil =>
    simp only [List.nil_append] at e
    subst e
    have : j ∈ i :: r := s2.subset (by simp)
    exact hpn.2.2 j hj j this rfl
  | cons y l1 =>
    simp only [List.cons_append, List.cons.injEq] at e
    obtain ⟨rfl, e⟩ := e
    exact hidn (s1.subset (by simp))

section
variable {E : Env} (hE : E.Ok) {n : Nat} {ops : Array Oper} {ks : List (Nat × List Nat)} {post : List Nat} {Q : M → Heap → Prop}
include hE

theorem keys_run {mo : M} {I : (Nat → Bool) → (Nat → Value) → Heap → Prop} {p : List Nat} (hnd : nodupN (dstsN ops.toList (keyN ks)) = true) (hks : (keyN ks).Nodup)
    (hpl : ks.all (plainKey ops.toList (masks ops.toList []) (keyN ks)) = true) (hlt : ∀ i ∈ keyN ks, i < ops.size) (hpt : ∀ i ∈ post, i < ops.size)
    (hp : ∀ i, i ∈ p ↔ i ∈ keyN ks) (hpn : p.Nodup) (hah : ∀ i ∈ keyN ks, ∀ m, (masks ops.toList [])[i]? = some m → ∀ k ∈ keyN ks, Nat.testBit m k = true → k ≠ i → [k, i].Sublist p)
    (hmo : ∀ t v, look mo t = some v → t ∉ dstsN ops.toList (keyN ks)) (hI : eachK (oneK E n ops.toList mo ks I) ks)
    (hend : ∀ val h, I (fun _ => true) val h → vcOps E n ops.toList (picks ops.toList post) Q (kM ops.toList val mo (keyN ks)) h) :
    ∀ (r dn : List Nat), dn ++ r = p → ∀ (val : Nat → Value) (a : Act) (h : Heap), a.defers = ds → a.tmps.size = n → (∀ t v, look mo t = some v → a.tmps[t]? = some v) →
      (∀ j ∈ dn, ∀ o d, nth ops.toList j = some o → o.dst = some d → a.tmps[d]? = some (val j)) → I (fun j => startD ks j || memN dn j) val h → RL E ops (LiftA ds n Q) (r ++ post) a h
  | [], dn, hdn, val, a, h, hd, hz, hm, hv, hi => by
    rw [List.append_nil] at hdn
    have e : (fun j => startD ks j || memN dn j) = fun _ => true := by
      funext j
      unfold startD
      cases hc : memN (keyN ks) j with
      | false => rfl
      | true =>
        have : j ∈ p := (hp j).2 (memN_iff.1 hc)
        rw [hdn, memN_iff.2 this]
        rfl
    rw [e] at hi
    refine vcOps_any hE hpt ⟨hd, hz, fun t v ht => ?_⟩ (hend val h hi)
    rcases look_kM ht with ht | ⟨j, hj, o, ho, hdo, rfl⟩
    · exact hm t v ht
    · exact hv j (by rw [hdn]; exact (hp j).2 hj) o t ho hdo
  | i :: r, dn, hdn, val, a, h, hd, hz, hm, hv, hi => by
    have hip : i ∈ p := by rw [← hdn]; simp
    have hik := (hp i).1 hip
    have hilt := hlt i hik
    have ho : ops[i]? = some ops[i] := Array.getElem?_eq_getElem hilt
    have hn : nth ops.toList i = some ops[i] := by rw [nth_toList, Array.getElem?_toList]; exact ho
    obtain ⟨x, hx, hxi⟩ := keyN_mem hik
    have hx1 := List.all_eq_true.1 hpl x hx
    unfold plainKey at hx1
    rw [hxi, hn] at hx1
    split at hx1
    case h_2 => cases hx1
    case h_1 o0 m0 e0 hm0 =>
    simp only [Option.some.injEq] at e0
    subst e0
    rw [nth_toList] at hm0
    simp only [Bool.and_eq_true, List.all_eq_true, Bool.not_eq_true'] at hx1
    obtain ⟨hg, hpre⟩ := hx1
    have hgn : ops[i].guard = none := by
      cases hgd : ops[i].guard with
      | none => rfl
      | some g => rw [hgd] at hg; cases hg
    have hpn' := hpn
    rw [← hdn, List.nodup_append, List.nodup_cons] at hpn'
    have hidn : i ∉ dn := fun hm => hpn'.2.2 i hm i (by simp) rfl
    have hpd : ∀ j ∈ x.2, j ∈ dn := by
      intro j hj
      obtain ⟨⟨h1, h2⟩, h3⟩ := hpre j hj
      have hji := beq_ne h3
      have hsub := hah i hik m0 hm0 j (memN_iff.1 h1) h2 hji
      have hjp : j ∈ p := hsub.subset (by simp)
      rw [← hdn] at hsub hjp
      rcases List.mem_append.1 hjp with hj | hj
      · exact hj
      · exfalso
        rcases List.mem_cons.1 hj with rfl | hj
        · exact hji rfl
        · -- j behind i: [j, i] is no part
          rw [List.sublist_append_iff] at hsub
          obtain ⟨l1, l2, e, s1, s2⟩ := hsub
          cases l1 with
          | nil =>
            simp only [List.nil_append] at e
            subst e
            cases s2 with
            | cons _ s2 => exact hpn'.2.1.1 (s2.subset (by simp))
            | cons_cons _ s2 => exact hji rfl
          | cons y l1 =>
            simp only [List.cons_append, List.cons.injEq] at e
            obtain ⟨rfl, e⟩ := e
            exact hpn'.2.2 j (s1.subset (by simp)) j (by simp [hj]) rfl
    have hone := eachK_mem hI x hx
    unfold oneK at hone
    rw [hxi, hn] at hone
    have hsucc : ∀ j, memN (succN i ks) j = true → (startD ks j || memN dn j) = false := by
      intro j hj
      obtain ⟨y, hy, rfl, hiy⟩ := succN_mem (memN_iff.1 hj)
      have hyk := mem_keyN hy
      have hy1 := List.all_eq_true.1 hpl y hy
      unfold plainKey at hy1
      split at hy1
      case h_2 => cases hy1
      case h_1 o1 m1 _ hm1 =>
      simp only [Bool.and_eq_true, List.all_eq_true, Bool.not_eq_true'] at hy1
      obtain ⟨⟨h1, h2⟩, h3⟩ := hy1.2 i hiy
      rw [nth_toList] at hm1
      have hne := beq_ne h3
      have hsub := hah y.1 hyk m1 hm1 i (memN_iff.1 h1) h2 hne
      have h4 : memN dn y.1 = false := by
        cases hc : memN dn y.1 with
        | false => rfl
        | true => exact absurd (memN_iff.1 hc) (pair_dn hdn hpn hsub hne)
      unfold startD
      rw [memN_iff.2 hyk, h4]
      rfl
    have eC : (clrs (succN i ks) fun j => startD ks j || memN dn j) = fun j => startD ks j || memN dn j := by
      funext j
      rw [clrs_eq]
      cases hc : memN (succN i ks) j with
      | false => rfl
      | true => rw [hsucc j hc]; rfl
    have eD : (fun j => startD ks j || memN dn j) = clr i (sets x.2 (clrs (succN i ks) fun j => startD ks j || memN dn j)) := by
      rw [eC]
      funext j
      unfold clr
      cases hb : Nat.beq j i with
      | true =>
        have := Nat.eq_of_beq_eq_true hb
        subst this
        have h1 : memN dn j = false := by
          cases hc : memN dn j with
          | false => rfl
          | true => exact absurd (memN_iff.1 hc) hidn
        unfold startD
        rw [memN_iff.2 hik, h1]
        rfl
      | false =>
        simp only []
        rw [sets_eq]
        cases hc : memN x.2 j with
        | false => rfl
        | true => rw [memN_iff.2 (hpd j (memN_iff.1 hc)), Bool.or_true]; rfl
    rw [eD] at hi
    have h1 := hone _ val h hi
    have hst : St ds n (kM ops.toList val mo x.2) a := by
      refine ⟨hd, hz, fun t v ht => ?_⟩
      rcases look_kM ht with ht | ⟨j, hj, o, ho, hdo, rfl⟩
      · exact hm t v ht
      · exact hv j (hpd j hj) o t ho hdo
    simp only [List.cons_append, RL, ho]
    unfold stepR
    rw [if_pos (by unfold Region.wanted; rw [hgn])]
    refine vcOp_ok hE hst h1 fun v h' hk => ?_
    have eD2 : (sets (i :: x.2) fun j => startD ks j || memN dn j) = fun j => startD ks j || memN (dn ++ [i]) j := by
      funext j
      rw [sets_eq]
      have e1 : memN (dn ++ [i]) j = (memN dn j || memN [i] j) := by
        rw [Bool.eq_iff_iff, Bool.or_eq_true, memN_iff, memN_iff, memN_iff, List.mem_append]
      rw [e1]
      have e2 : memN (i :: x.2) j = (memN [i] j || memN x.2 j) := by
        rw [Bool.eq_iff_iff, Bool.or_eq_true, memN_iff, memN_iff, memN_iff]
        simp
      rw [e2]
      cases hc : memN x.2 j with
      | false => cases memN [i] j <;> cases startD ks j <;> cases memN dn j <;> rfl
      | true => rw [memN_iff.2 (hpd j (memN_iff.1 hc))]; cases memN [i] j <;> cases startD ks j <;> rfl
    have hsv : ∀ j ∈ dn, setV i v val j = val j := by
      intro j hj
      unfold setV
      cases hb : Nat.beq j i with
      | true => rw [Nat.eq_of_beq_eq_true hb] at hj; exact absurd hj hidn
      | false => rfl
    have hvi : setV i v val i = v := by unfold setV; rw [Nat.beq_refl]
    unfold putD at hk
    have hrest : ∀ (b : Act), b.defers = ds → b.tmps.size = n → (∀ t v, look mo t = some v → b.tmps[t]? = some v) → (∀ j ∈ dn ++ [i], ∀ o d, nth ops.toList j = some o → o.dst = some d → b.tmps[d]? = some (setV i v val j)) →
        I (sets (i :: x.2) (clrs (succN i ks) fun j => startD ks j || memN dn j)) (setV i v val) h' → RL E ops (LiftA ds n Q) (r ++ post) b h' := by
      intro b b1 b2 b3 b4 b5
      rw [eC, eD2] at b5
      exact keys_run hnd hks hpl hlt hpt hp hpn hah hmo hI hend r (dn ++ [i]) (by rw [← hdn]; simp) (setV i v val) b h' b1 b2 b3 b4 b5
    cases hdst : ops[i].dst with
    | none =>
      rw [hdst] at hk
      refine hrest _ hd hz hm (fun j hj o d ho hdo => ?_) hk
      rcases List.mem_append.1 hj with hj | hj
      · rw [hsv j hj]; exact hv j hj o d ho hdo
      · rw [List.mem_singleton.1 hj, hn] at ho
        injection ho with ho
        rw [← ho, hdst] at hdo
        cases hdo
    | some d =>
      rw [hdst] at hk
      simp only at hk
      split at hk
      case h_2 => exact hk.elim
      case h_1 hdn' =>
      rw [Nat.blt_eq] at hdn'
      refine hrest _ (by simpa [Act.put] using hd) (by simpa [Act.put] using hz) (fun t u ht => ?_) (fun j hj o d' ho hdo => ?_) hk
      · have h2 := hmo t u ht
        have h3 : d ≠ t := fun e => h2 (by rw [← e]; exact mem_dstsN hn hdst hik)
        simp only [Act.put, Array.getElem?_setIfInBounds]
        rw [if_neg h3]
        exact hm t u ht
      · rcases List.mem_append.1 hj with hj | hj
        · rw [hsv j hj]
          have hjk : j ∈ keyN ks := (hp j).1 (by rw [← hdn]; simp [hj])
          have h3 : d ≠ d' := fun e => dsts_apart (nodupN_iff hnd) hks hik hjk (fun e => hidn (by rw [e]; exact hj)) hn ho hdst (by rw [hdo, e])
          simp only [Act.put, Array.getElem?_setIfInBounds]
          rw [if_neg h3]
          exact hv j hj o d' ho hdo
        · rw [List.mem_singleton.1 hj, hn] at ho
          injection ho with ho
          rw [← ho, hdst] at hdo
          injection hdo with hdo
          subst hdo
          rw [List.mem_singleton.1 hj, hvi]
          simp only [Act.put, Array.getElem?_setIfInBounds, if_true]
          rw [if_pos (by omega)]

theorem keys_ok {pre : List Nat} (hd : keysOK E ops pre ks post = true) {m : M} {a : Act} {h : Heap} (hs : St ds n m a)
    (hh : vcOps E n ops.toList (picks ops.toList pre) (fun m h => KeysK E n ops.toList ks post Q m h) m h) : ∀ s, Topo ops (Array.replicate ops.size false) s → RL E ops (LiftA ds n Q) s a h := by
  intro s ht
  simp only [keysOK, Bool.and_eq_true] at hd
  obtain ⟨⟨⟨⟨hed, hall⟩, hord⟩, hnd⟩, hpl⟩ := hd
  obtain ⟨g1, g2, _⟩ := ordKs_pw hord
  have hln : (pre ++ (keyN ks ++ post)).Nodup := g2.imp fun h => h.ne
  have hsz : (Array.replicate ops.size false).size = ops.size := by simp
  have hcl : clz ops (Array.replicate ops.size false) := by
    intro j o hj hL
    exfalso
    simp only [Array.getD_eq_getD_getElem?, Array.getElem?_replicate] at hL
    split at hL <;> simp at hL
  have hmem : ∀ i, i ∈ s ↔ i < ops.size := by
    intro i
    rw [ht.mem hsz, rest_all, List.mem_range]
  have hsn := ht.nodup hsz
  have hah := ht.ahead hsz hcl
  have hnot : ∀ k, (Array.replicate ops.size false).getD k false ≠ true := by
    intro k hL
    simp only [Array.getD_eq_getD_getElem?, Array.getElem?_replicate] at hL
    split at hL <;> simp at hL
  -- the keys in the order drawn
  generalize hpdef : s.filter (memN (keyN ks)) = p
  have hpm : ∀ i, i ∈ p ↔ i ∈ keyN ks := by
    intro i
    rw [← hpdef, List.mem_filter, memN_iff, hmem]
    exact ⟨fun h => h.2, fun h => ⟨g1 i (by simp [h]), h⟩⟩
  have hpn : p.Nodup := by rw [← hpdef]; exact hsn.sublist List.filter_sublist
  have hps : p.Sublist s := by rw [← hpdef]; exact List.filter_sublist
  have hkn : (keyN ks).Nodup := by
    rw [List.nodup_append] at hln
    exact (List.nodup_append.1 hln.2.1).1
  have hpp : p.Perm (keyN ks) := (List.perm_ext_iff_of_nodup hpn hkn).2 hpm
  have hlp : (pre ++ (p ++ post)).Perm (pre ++ (keyN ks ++ post)) := (hpp.append_right post).append_left pre
  have hls : (pre ++ (p ++ post)).Perm s := by
    refine (List.perm_ext_iff_of_nodup (hlp.nodup_iff.2 hln) hsn).2 fun i => ?_
    rw [hlp.mem_iff, hmem]
    refine ⟨g1 i, fun hi => ?_⟩
    have := List.all_eq_true.1 hall i (by simpa using hi)
    rw [List.any_eq_true] at this
    obtain ⟨x, hx, he⟩ := this
    rw [Nat.eq_of_beq_eq_true he]; exact hx
  have hfor : ∀ k i, k ≠ i → i < ops.size → (∃ m, (masks ops.toList [])[i]? = some m ∧ Nat.testBit m k = true) → [k, i].Sublist s := by
    rintro k i hki hi ⟨m, hm, hb⟩
    rcases hah i ((hmem i).2 hi) m hm k hb with h | h | h
    · exact absurd h (hnot k)
    · exact absurd h hki
    · exact h
  have hpk : ∀ k i, PairKs E ops (keyN ks) k i → i < ops.size → ¬ (k ∈ keyN ks ∧ i ∈ keyN ks) → [k, i].Sublist s ∨ pairOk E ops k i := by
    intro k i h hi hn
    rcases h.or with h1 | h1 | h1
    · exact absurd h1 hn
    · exact .inl (hfor k i h.ne hi h1)
    · exact .inr h1
  refine RL_sort s (pre ++ (p ++ post)) hls hsn ?_ ?_
  · rw [List.pairwise_append, List.pairwise_append] at g2 ⊢
    obtain ⟨a1, ⟨a2, a3, a4⟩, a5⟩ := g2
    rw [List.nodup_append] at hln
    obtain ⟨b1, b2, b3⟩ := hln
    have hpre : ∀ k ∈ pre, k ∉ keyN ks := fun k hk hm => b3 k hk k (by simp [hm]) rfl
    have hpo : ∀ k ∈ post, k ∉ keyN ks := fun k hk hm => (List.nodup_append.1 b2).2.2 k hm k hk rfl
    refine ⟨a1.imp_of_mem fun {k i} hk hi h => hpk k i h (g1 i (by simp [hi])) fun e => hpre k hk e.1, ⟨?_, a3.imp_of_mem fun {k i} hk hi h => hpk k i h (g1 i (by simp [hi])) fun e => hpo k hk e.1, ?_⟩, ?_⟩
    · have h1 : p.Pairwise fun k i => [k, i].Sublist p := by
        rw [List.pairwise_iff_forall_sublist]
        intro k i h
        exact h
      exact h1.imp fun h => .inl (h.trans hps)
    · intro k hk i hi
      exact hpk k i (a4 k ((hpm k).1 hk) i hi) (g1 i (by simp [hi])) fun e => hpo i hi e.2
    · intro k hk i hi
      have hi' : i ∈ keyN ks ++ post := by
        rcases List.mem_append.1 hi with h | h
        · exact List.mem_append.2 (.inl ((hpm i).1 h))
        · exact List.mem_append.2 (.inr h)
      exact hpk k i (a5 k hk i hi') (g1 i (by simp only [List.mem_append] at hi' ⊢; exact .inr hi')) fun e => hpre k hk e.1
  · refine RL_append pre (RL_mono ?_ (vcOps_any hE (fun i hi => g1 i (by simp [hi])) hs hh))
    rintro a1 h1 ⟨m1, hs1, hk⟩
    obtain ⟨I, val, hi0, hI, hend⟩ := hk.out
    refine keys_run hE hnd hkn hpl (fun i hi => g1 i (by simp [hi])) (fun i hi => g1 i (by simp [hi])) hpm hpn (fun i hi m hm k hk hb hki => ?_) (fun t v ht => look_offM ht) hI hend p [] rfl val a1 h1 hs1.defers hs1.size
      (fun t v ht => hs1.has t v (look_offM_m ht)) (fun j hj => by simp at hj) (by
        have e : (fun j => startD ks j || memN [] j) = startD ks := by funext j; simp [memN]
        rw [e]
        exact hi0)
    have h1 := hfor k i hki (g1 i (by simp [hi])) ⟨m, hm, hb⟩
    rw [← hpdef]
    have h2 := h1.filter (memN (keyN ks))
    rw [List.filter_eq_self.2 (by
      intro x hx
      rw [memN_iff]
      rcases List.mem_cons.1 hx with rfl | hx
      · exact hk
      · rw [List.mem_singleton.1 hx]; exact hi)] at h2
    exact h2

end

/-- A region whose order is drawn: each order does the same; or there is one order for each way in which those that do not commute may lie; or of each effect it is told what it does whichever others are done. -/
inductive Drawn (E : Env) (n : Nat) (ops : Array Oper) (Q : M → Heap → Prop) (m : M) (h : Heap) : Prop where
  | mk (ok : drawOK E ops = true) (go : vcOps E n ops.toList ops.toList Q m h)
  | many (C : List (Nat × Nat)) (Ls : List (List Nat)) (ok : drawsOK E ops C Ls = true) (go : ∀ l ∈ Ls, vcOps E n ops.toList (picks ops.toList l) Q m h)
  | keys (pre : List Nat) (ks : List (Nat × List Nat)) (post : List Nat) (ok : keysOK E ops pre ks post = true) (go : vcOps E n ops.toList (picks ops.toList pre) (fun m h => KeysK E n ops.toList ks post Q m h) m h)

theorem Drawn.two {E : Env} {n : Nat} {ops : Array Oper} {Q : M → Heap → Prop} {m : M} {h : Heap} (C : List (Nat × Nat)) (l1 l2 : List Nat) (ok : drawsOK E ops C [l1, l2] = true) (go1 : vcOps E n ops.toList (picks ops.toList l1) Q m h) (go2 : vcOps E n ops.toList (picks ops.toList l2) Q m h) : Drawn E n ops Q m h :=
  .many C [l1, l2] ok fun l hl => by
    rcases List.mem_cons.1 hl with rfl | hl
    · exact go1
    · rw [List.mem_singleton.1 hl]; exact go2

/-- One order does for all: reads that no call is ahead of come first. -/
theorem Drawn.ord {E : Env} {n : Nat} {ops : Array Oper} {Q : M → Heap → Prop} {m : M} {h : Heap} (l : List Nat) (ok : drawsOK E ops [] [l] = true) (go : vcOps E n ops.toList (picks ops.toList l) Q m h) : Drawn E n ops Q m h :=
  .many [] [l] ok fun l' hl => by rw [List.mem_singleton.1 hl]; exact go

/-! ### Code -/

/-- Only what is asked for later. -/
def pruneK : List Nat → M → (M → Prop) → Prop
  | [], _, K => K []
  | t :: r, m, K => match look m t with
    | some v => pruneK r m fun m' => K ((t, v) :: m')
    | none => pruneK r m K

theorem pruneK_out : ∀ {l : List Nat} {m : M} {K : M → Prop}, pruneK l m K → ∃ m', (∀ t v, look m' t = some v → look m t = some v) ∧ K m'
  | [], m, K, h => ⟨[], fun t v hv => by simp [look] at hv, h⟩
  | t :: r, m, K, h => by
    simp only [pruneK] at h
    split at h
    · rename_i v hv
      obtain ⟨m', hm, hk⟩ := pruneK_out h
      refine ⟨_, fun s u hu => ?_, hk⟩
      rcases look_cons hu with ⟨rfl, rfl⟩ | h1
      · exact hv
      · exact hm _ _ h1
    · exact pruneK_out h

theorem St.sub {n : Nat} {m m' : M} {a : Act} (hs : St ds n m a) (h : ∀ t v, look m' t = some v → look m t = some v) : St ds n m' a :=
  ⟨hs.defers, hs.size, fun t v hv => hs.has t v (h t v hv)⟩

def lookIs (m : M) (t : Nat) (v : Value) : Prop := match look m t with
  | some u => u = v
  | none => False

def subM : M → M → Prop
  | [], _ => True
  | (t, v) :: r, m => lookIs m t v ∧ subM r m

theorem subM_out : ∀ {m' m : M}, subM m' m → ∀ t v, look m' t = some v → look m t = some v
  | [], m, _, t, v, hv => by simp [look] at hv
  | (s, u) :: r, m, h, t, v, hv => by
    rcases look_cons hv with ⟨rfl, rfl⟩ | h1
    · have := h.1
      unfold lookIs at this
      split at this
      · rename_i w hw; subst this; exact hw
      · exact this.elim
    · exact subM_out h.2 t v h1

/-- A loop: what holds of its slots at the head of each round (a family), what of the heap, a measure; the slots that are carried as they are. -/
structure LoopK (body : (Exit → M → Heap → Prop) → M → Heap → Prop) (Q : Exit → M → Heap → Prop) (m : M) (h : Heap) : Prop where
  out : ∃ (ι : Type) (carry : List Nat) (ms : ι → M) (I : ι → Heap → Prop) (μ : ι → Nat), pruneK carry m fun mc =>
    (∃ i, subM (ms i) m ∧ I i h) ∧ ∀ i h', I i h' → body (fun e m' h'' => match e with
      | .normal => ∃ j, subM (ms j) m' ∧ subM mc m' ∧ I j h'' ∧ μ j < μ i
      | e => Q e m' h'') (ms i ++ mc) h'

def blockQ (id : Nat) (Q : Exit → M → Heap → Prop) : Exit → M → Heap → Prop
  | .exit id', m, h => match Nat.beq id' id with
    | true => Q .normal m h
    | false => Q (.exit id') m h
  | e, m, h => Q e m h

def seqQ (next : M → Heap → Prop) (Q : Exit → M → Heap → Prop) : Exit → M → Heap → Prop
  | .normal, m, h => next m h
  | e, m, h => Q e m h

def condK (m : M) (c : Operand) (A B : Prop) : Prop := withV m c fun v => match v with
  | .bool b => iteB b A B
  | _ => False

def LiftE (ds : List Deferred) (n : Nat) (w0 : World) (Q : Exit → M → Heap → Prop) : Exit → Act → World → Prop := fun e a w => ∃ m, St ds n m a ∧ Same w0 w ∧ Q e m w.heap

/-- A range over a function: by the machine's own law. -/
structure RangeK (E : Env) (n : Nat) (g : Operand) (ps : Array Tmp) (asg body : Code) (Q : Exit → M → Heap → Prop) (m : M) (h : Heap) : Prop where
  out : ∀ ds a w, St ds n m a → w.heap = h → (Code.rangeFunc g ps asg body).wp E.P (LiftE ds n w Q) a w

def vc (E : Env) (n : Nat) (live : List Nat) (c : Code) : (Exit → M → Heap → Prop) → M → Heap → Prop :=
  Code.rec (motive := fun _ => (Exit → M → Heap → Prop) → M → Heap → Prop)
    (fun Q m h => Q .normal m h)
    (fun _ ops draw Q m h => match draw with
      | false => vcOps E n ops.toList ops.toList (fun m h => pruneK live m fun m => Q .normal m h) m h
      | true => Drawn E n ops (fun m h => pruneK live m fun m => Q .normal m h) m h)
    (fun _ _ iha ihb Q m h => iha (seqQ (ihb Q) Q) m h)
    (fun c _ _ iha ihb Q m h => condK m c (iha Q m h) (ihb Q m h))
    (fun id _ ih Q m h => ih (blockQ id Q) m h)
    (fun _ ih Q m h => LoopK ih Q m h)
    (fun g ps asg body _ _ Q m h => RangeK E n g ps asg body Q m h)
    (fun id Q m h => Q (.exit id) m h)
    (fun _ _ _ _ _ => False)
    (fun _ _ _ _ => False)
    (fun _ _ _ _ => False)
    (fun Q m h => Q .ret m h)
    (fun _ _ _ _ => False)
    c

theorem LiftE.from {n : Nat} {w0 w1 : World} {Q : Exit → M → Heap → Prop} (hs : Same w0 w1) {e : Exit} {a : Act} {w : World} (h : LiftE ds n w1 Q e a w) : LiftE ds n w0 Q e a w :=
  let ⟨m, h1, h2, h3⟩ := h; ⟨m, h1, hs.trans h2, h3⟩

theorem look_append : ∀ {x y : M} {t : Nat} {v : Value}, look (x ++ y) t = some v → look x t = some v ∨ look y t = some v
  | [], y, t, v, h => .inr h
  | (d, u) :: x, y, t, v, h => by
    rcases look_cons h with ⟨rfl, rfl⟩ | h1
    · left; simp [look, Nat.beq_refl]
    · simp only [List.cons_append, look] at h ⊢
      split at h
      · exact .inl h
      · exact look_append h

theorem vc_ok {E : Env} (hE : E.Ok) {n : Nat} {live : List Nat} : ∀ (c : Code) {Q : Exit → M → Heap → Prop} {m : M} {a : Act} {w : World}, St ds n m a → vc E n live c Q m w.heap → c.wp E.P (LiftE ds n w Q) a w
  | .skip, Q, m, a, w, hs, h => wp_skip ⟨m, hs, Same.refl _, h⟩
  | .region id ops false, Q, m, a, w, hs, h => by
    refine still_ok (fun a w hsm hk => ?_) (vcRegion_ok hE hs h)
    obtain ⟨m', hs', hp⟩ := hk
    obtain ⟨m2, hm, hq⟩ := pruneK_out hp
    exact ⟨m2, hs'.sub hm, hsm, hq⟩
  | .region id ops true, Q, m, a, w, hs, h => by
    have hfin : ∀ (a : Act) (w' : World), Same w w' → LiftA ds n (fun m h => pruneK live m fun m => Q .normal m h) a w'.heap → LiftE ds n w Q .normal a w' := by
      intro a w' hsm hk
      obtain ⟨m', hs', hp⟩ := hk
      obtain ⟨m2, hm, hq⟩ := pruneK_out hp
      exact ⟨m2, hs'.sub hm, hsm, hq⟩
    cases h with
    | mk hd h => exact draw_ok hE hd hfin (vcRegion_ok hE hs h)
    | many C Ls hd h => exact draws_ok hE hd hfin (fun l hl => vcOps_any hE (drawsOK_lt hd l hl) hs (h l hl))
    | keys pre ks post hd h => exact order_ok hE (by simp only [keysOK, Bool.and_eq_true] at hd; exact hd.1.1.1.1) hfin (keys_ok hE hd hs h)
  | .seq x y, Q, m, a, w, hs, h => by
    refine wp_seq (wp_mono (vc_ok hE x (Q := seqQ (vc E n live y Q) Q) hs h) fun e a w ⟨m', hs', hsm, hq⟩ => ?_)
    cases e with
    | normal => exact wp_mono (vc_ok hE y hs' hq) fun e a w h => h.from hsm
    | _ => exact ⟨m', hs', hsm, hq⟩
  | .cond c x y, Q, m, a, w, hs, h => by
    replace h : condK m c (vc E n live x Q m w.heap) (vc E n live y Q m w.heap) := h
    unfold condK at h
    obtain ⟨v, hv, h⟩ := withV_out h
    have ev := hs.ev hv
    split at h
    · rename_i b
      cases b with
      | true => exact wp_cond_true ev (vc_ok hE x hs h)
      | false => exact wp_cond_false ev (vc_ok hE y hs h)
    · exact h.elim
  | .block id c, Q, m, a, w, hs, h => by
    refine wp_block (wp_mono (vc_ok hE c (Q := blockQ id Q) hs h) fun e a w ⟨m', hs', hsm, hq⟩ => ?_)
    cases e with
    | exit id' =>
      simp only [blockQ] at hq
      simp only [Exit.inBlock]
      split at hq
      · rename_i hb; rw [if_pos (Nat.eq_of_beq_eq_true hb)]; exact ⟨m', hs', hsm, hq⟩
      · rename_i hb; rw [if_neg (beq_ne hb)]; exact ⟨m', hs', hsm, hq⟩
    | _ => exact ⟨m', hs', hsm, hq⟩
  | .loop c, Q, m, a, w, hs, h => by
    replace h : LoopK (vc E n live c) Q m w.heap := h
    obtain ⟨ι, carry, ms, I, μ, h⟩ := h.out
    obtain ⟨mc, hmc, h0, h⟩ := pruneK_out h
    obtain ⟨i0, hsub, hI⟩ := h0
    classical
    let Inv : Act → World → Prop := fun a w => ∃ i, St ds n (ms i ++ mc) a ∧ I i w.heap
    let mu : Act → World → Nat := fun a w => if hx : ∃ k, ∃ i, St ds n (ms i ++ mc) a ∧ I i w.heap ∧ μ i = k then Classical.choose hx else 0
    -- the least measure
    let P : Act → World → Nat → Prop := fun a w k => ∃ i, St ds n (ms i ++ mc) a ∧ I i w.heap ∧ μ i = k
    have least : ∀ a w, Inv a w → ∃ k, P a w k ∧ ∀ k', P a w k' → k ≤ k' := by
      intro a w ⟨i, h1, h2⟩
      have hex : ∀ N k, k ≤ N → P a w k → ∃ k, P a w k ∧ ∀ k', P a w k' → k ≤ k' := by
        intro N
        induction N with
        | zero => intro k hk hp; exact ⟨k, hp, fun k' _ => by omega⟩
        | succ N ih =>
          intro k hk hp
          by_cases hlt : ∃ k', P a w k' ∧ k' < k
          · obtain ⟨k', hp', hlt⟩ := hlt
            exact ih k' (by omega) hp'
          · exact ⟨k, hp, fun k' hp' => by
              rcases Nat.lt_or_ge k' k with h | h
              · exact absurd ⟨k', hp', h⟩ hlt
              · exact h⟩
      exact hex (μ i) (μ i) (Nat.le_refl _) ⟨i, h1, h2, rfl⟩
    let mu' : Act → World → Nat := fun a w => if hx : Inv a w then Classical.choose (least a w hx) else 0
    have mu_spec : ∀ a w, Inv a w → P a w (mu' a w) ∧ ∀ k', P a w k' → mu' a w ≤ k' := by
      intro a w hx
      show P a w (if hx : Inv a w then _ else 0) ∧ ∀ k', P a w k' → (if hx : Inv a w then _ else 0) ≤ k'
      rw [dif_pos hx]
      exact Classical.choose_spec (least a w hx)
    refine wp_loop (fun a w' => Same w w' ∧ Inv a w') mu' ⟨Same.refl _, i0, hs.sub fun t v hv => ?_, hI⟩ fun a1 w1 hInv0 => ?_
    · rcases look_append hv with h1 | h1
      · exact subM_out hsub t v h1
      · exact hmc t v h1
    · obtain ⟨hsm0, hInv⟩ := hInv0
      obtain ⟨⟨i, hs1, hI1, hmu⟩, _⟩ := mu_spec a1 w1 hInv
      refine wp_mono (vc_ok hE c hs1 (h i w1.heap hI1)) fun e a2 w2 ⟨m', hs', hsm, hq⟩ => ?_
      cases e with
      | normal =>
        obtain ⟨j, hj, hj', hIj, hlt⟩ := hq
        have hst : St ds n (ms j ++ mc) a2 := hs'.sub fun t v hv => by
          rcases look_append hv with h1 | h1
          · exact subM_out hj t v h1
          · exact subM_out hj' t v h1
        have hInv2 : Inv a2 w2 := ⟨j, hst, hIj⟩
        refine ⟨⟨hsm0.trans hsm, hInv2⟩, ?_⟩
        have := (mu_spec a2 w2 hInv2).2 (μ j) ⟨j, hst, hIj, rfl⟩
        show mu' a2 w2 < mu' a1 w1
        omega
      | _ => exact ⟨m', hs', hsm0.trans hsm, hq⟩
  | .exit id, Q, m, a, w, hs, h => wp_exit ⟨m, hs, Same.refl _, h⟩
  | .ret, Q, m, a, w, hs, h => wp_ret ⟨m, hs, Same.refl _, h⟩
  | .rangeFunc g ps asg body, Q, m, a, w, hs, h => RangeK.out h ds a w hs rfl
  | .scope _, _, _, _, _, _, h => h.elim
  | .label _, _, _, _, _, _, h => h.elim
  | .goto _, _, _, _, _, _, h => h.elim
  | .refuse _, _, _, _, _, _, h => h.elim

/-! ### A function -/

def resK (E : Env) : List ResultVar → M → Heap → (List Value → Prop) → Prop
  | [], _, _, K => K []
  | .tmp t :: r, m, h, K => match look m t with
    | some v => resK E r m h fun vs => K (v :: vs)
    | none => False
  | .cell a t :: r, m, h, K => match look m a with
    | some v => LdK E t v h fun u => resK E r m h fun vs => K (u :: vs)
    | none => False

def tup (vs : List Value) : Value := match vs with
  | [v] => v
  | vs => .tuple vs.toArray

def fnQ (E : Env) (rs : List ResultVar) (R : Value → Heap → Prop) : Exit → M → Heap → Prop
  | .normal, m, h => resK E rs m h fun vs => R (tup vs) h
  | .ret, m, h => resK E rs m h fun vs => R (tup vs) h
  | _, _, _ => False

def resOne (tmps : Array Value) : ResultVar → Sem Value
  | .tmp t => pure (tmps.getD t undef)
  | .cell x t => do loadVar t (← asAddr (tmps.getD x undef))

theorem resK_ok {E : Env} (hE : E.Ok) {n : Nat} {a : Act} {w : World} {m : M} (hs : St ds n m a) : ∀ {rs : List ResultVar} {K : List Value → Prop}, resK E rs m w.heap K →
    ∃ vs, K vs ∧ (rs.mapM (resOne a.tmps)).run E.P w = .ok vs w
  | [], K, h => ⟨[], h, by simp⟩
  | .tmp t :: r, K, h => by
    simp only [resK] at h
    split at h
    · rename_i v hv
      obtain ⟨vs, hk, hr⟩ := resK_ok hE hs h
      refine ⟨v :: vs, hk, ?_⟩
      have := hs.has _ _ hv
      have h1 : (resOne a.tmps (.tmp t)).run E.P w = .ok v w := by simp [resOne, Array.getD_eq_getD_getElem?, this]
      rw [List.mapM_cons]
      simp only [Sem.run_bind, h1, Result.andThen_ok, hr, Sem.run_pure]
    · exact h.elim
  | .cell x t :: r, K, h => by
    simp only [resK] at h
    split at h
    · rename_i v hv
      have h1 := h.out
      obtain ⟨u, hk0, hld⟩ := ld_ok hE h
      obtain ⟨vs, hk, hr⟩ := resK_ok hE hs hk0
      refine ⟨u :: vs, hk, ?_⟩
      have := hs.has _ _ hv
      obtain ⟨b, o, c, T, z, _, rfl, _⟩ := h1
      have h2 := hld w (Keep.refl _ _)
      simp only [Instr.loadAt, Instr.sureAddr, Sem.run_bind, Sem.run_pure, Result.andThen_ok] at h2
      have h3 : (resOne a.tmps (.cell x t)).run E.P w = .ok u w := by
        simp only [resOne, Sem.run_bind, Array.getD_eq_getD_getElem?, this, Option.getD_some, asAddr, Sem.run_pure, Result.andThen_ok, h2]
      rw [List.mapM_cons]
      simp only [Sem.run_bind, h3, Result.andThen_ok, hr, Sem.run_pure]
    · exact h.elim

theorem results_ok {E : Env} (hE : E.Ok) {n : Nat} {fn : Func} {a : Act} {w : World} {m : M} (hs : St ds n m a) {K : List Value → Prop} (h : resK E fn.results.toList m w.heap K) :
    ∃ vs, K vs ∧ (results fn a.tmps).run E.P w = .ok (tup vs) w := by
  obtain ⟨vs, hk, hr⟩ := resK_ok hE hs h
  refine ⟨vs, hk, ?_⟩
  have e : results fn a.tmps = (do
      let vs ← fn.results.mapM (resOne a.tmps)
      pure (if h : vs.size = 1 then vs[0] else .tuple vs)) := by
    unfold results
    congr 1
  rw [e]
  have e2 : (fn.results.mapM (resOne a.tmps)).run E.P w = .ok vs.toArray w := by
    rw [← Array.toArray_toList (xs := fn.results), List.mapM_toArray]
    simp only [Sem.run_map, hr, Result.andThen_ok]
  simp only [Sem.run_bind, e2, Result.andThen_ok, Sem.run_pure]
  congr 1
  unfold tup
  match vs with
  | [] => simp
  | [v] => simp
  | u :: v :: r => simp

def slots (i : Nat) : List Value → M
  | [] => []
  | v :: r => (i, v) :: slots (i + 1) r

theorem slots_look : ∀ {l : List Value} {i t : Nat} {v : Value}, look (slots i l) t = some v → i ≤ t ∧ l[t - i]? = some v
  | [], i, t, v, h => by simp [slots, look] at h
  | u :: r, i, t, v, h => by
    rcases look_cons h with ⟨rfl, rfl⟩ | h1
    · simp
    · obtain ⟨h2, h3⟩ := slots_look h1
      refine ⟨by omega, ?_⟩
      rw [show t - i = t - (i + 1) + 1 from by omega]
      simpa using h3

theorem CallK.of_vc {E : Env} (hE : E.Ok) {f : Nat} {fn : Func} {c : Code} (live : List Nat) {args : List Value} {h : Heap} {R : Value → Heap → Prop} (hf : E.P.funcs[f]? = some fn) (hb : fn.body = some c)
    (hn : args.length ≤ fn.ntmps) (hh : vc E fn.ntmps live c (fnQ E fn.results.toList R) (slots 0 args) h) : CallK E.P f args.toArray h R := by
  refine ⟨fun w hw => ?_⟩
  subst hw
  refine calls_of_wp hf hb ?_
  have hs : St [] fn.ntmps (slots 0 args) { tmps := args.toArray ++ Array.replicate (fn.ntmps - args.toArray.size) undef, defers := [] } := by
    refine ⟨rfl, by simp; omega, fun t v hv => ?_⟩
    obtain ⟨_, h1⟩ := slots_look hv
    rw [Nat.sub_zero] at h1
    have hlt : t < args.length := by
      rcases Nat.lt_or_ge t args.length with h | h
      · exact h
      · rw [List.getElem?_eq_none h] at h1; cases h1
    simp only [Array.getElem?_append, List.size_toArray, hlt, if_true, List.getElem?_toArray, h1]
  refine wp_mono (vc_ok hE c hs hh) fun e a w' ⟨m, hs', hsm, hq⟩ => ?_
  cases e with
  | normal =>
    obtain ⟨vs, hk, hr⟩ := results_ok hE hs' hq
    exact ⟨hs'.defers, _, hr, _, rfl, hsm, hk⟩
  | ret =>
    obtain ⟨vs, hk, hr⟩ := results_ok hE hs' hq
    exact ⟨hs'.defers, _, hr, _, rfl, hsm, hk⟩
  | exit id => exact hq.elim
  | goto l => exact hq.elim
  | panic c => exact hq.elim
  | outgrown => exact hq.elim

theorem CallK.mono {P : Program} {f : Nat} {args : Array Value} {h : Heap} {K K' : Value → Heap → Prop} (x : CallK P f args h K) (hk : ∀ v h', K v h' → K' v h') : CallK P f args h K' :=
  ⟨fun w hw => (x.out w hw).mono fun _ _ ⟨v, he, h0, h1⟩ => ⟨v, he, h0, hk _ _ h1⟩⟩

end Go.Vc

namespace Go.Vc

def realTy (P : Program) (t : Nat) : Option Ty := match P.underlying t, P.info? t with
  | some d, some i => some ⟨d, i.size, i.bytes, isAggD d, i.zero⟩
  | _, _ => none

def bodyB (P : Program) (f : Nat) : Bool := match P.funcs[f]? with
  | some fn => fn.body.isSome && !(fn.name == "runtime.NumGoroutine")
  | none => false

def maskTy (P : Program) (mask : Nat) : Nat → Nat → List (Option Ty)
  | _, 0 => []
  | i, n + 1 => (match Nat.testBit mask i with
    | true => realTy P i
    | false => none) :: maskTy P mask (i + 1) n

def allBody (P : Program) : Nat → Bool
  | 0 => true
  | n + 1 => (Nat.blt n 3 || bodyB P n) && allBody P n

theorem maskTy_at {P : Program} {mask : Nat} : ∀ {n i t : Nat} {y : Ty}, nth (maskTy P mask i n) t = some (some y) → realTy P (i + t) = some y
  | 0, _, _, _, h => by simp [maskTy, nth] at h
  | n + 1, i, 0, y, h => by
    simp only [maskTy, nth, Option.some.injEq] at h
    split at h
    · exact h
    · cases h
  | n + 1, i, t + 1, y, h => by
    simp only [maskTy, nth] at h
    have := maskTy_at h
    rw [show i + (t + 1) = i + 1 + t from by omega]
    exact this

theorem allBody_at {P : Program} : ∀ {n f : Nat}, allBody P n = true → 3 ≤ f → f < n → bodyB P f = true
  | 0, _, _, _, h => absurd h (Nat.not_lt_zero _)
  | n + 1, f, h, h3, hf => by
    simp only [allBody, Bool.and_eq_true, Bool.or_eq_true, Nat.blt_eq] at h
    rcases Nat.lt_or_ge f n with h1 | h1
    · exact allBody_at h.2 h3 h1
    · rw [show f = n from by omega]
      rcases h.1 with h4 | h4
      · omega
      · exact h4

theorem Env.ok_of {E : Env} {mask n : Nat} (hT : maskTy E.P mask 0 n = E.tys) (hM : E.P.follows .mixedOrders = true) (hF : allBody E.P E.nf = true) : E.Ok := by
  refine ⟨fun t y h => ?_, hM, fun f h3 hf args w => ?_⟩
  · unfold Env.ty at h
    split at h
    · rename_i z hz
      subst h
      rw [← hT] at hz
      have := maskTy_at hz
      rw [Nat.zero_add] at this
      unfold realTy at this
      split at this
      · rename_i d i hd hi
        simp only [Option.some.injEq] at this
        subst this
        exact ⟨hd, ⟨i, hi, rfl, rfl, rfl⟩, rfl⟩
      · cases this
    · cases h
  · have := allBody_at hF h3 hf
    unfold bodyB at this
    split at this
    · rename_i fn hfn
      simp only [Bool.and_eq_true, Bool.not_eq_true'] at this
      have h1 : fn.body.isNone = false := by
        cases hb : fn.body with
        | none => rw [hb] at this; simp at this
        | some c => rfl
      have h2 : fn.name ≠ "runtime.NumGoroutine" := by simpa using this.2
      simp only [callFunc, Sem.run_bind, run_program, Result.andThen_ok, hfn]
      rw [if_neg (by simpa using h2), h1]
      rfl
    · cases this

end Go.Vc

namespace Go.Vc
open Go.RowKit
variable {ds : List Deferred}

/-! ### within a fence: a round of a range over a function -/

/-- The fences that let all through. -/
def Wd (F : Fence) : Prop := F = Fence.wide ∨ ∃ l, F = Fence.wide.inRound l

theorem Wd.fn {F : Fence} (h : Wd F) (f : FuncId) : F.fn f := by
  rcases h with rfl | ⟨l, rfl⟩ <;> exact trivial

theorem Wd.depth {F : Fence} (h : Wd F) : F.depth = none := by
  rcases h with rfl | ⟨l, rfl⟩ <;> rfl

theorem callsIn_of {F : Fence} (hF : Wd F) {n : Nat} {P : Program} {f : FuncId} {args : Array Value} {w : World} {R : Ending → World → Prop} (h : Calls P f args w R) : CallsIn F n P f args w R := by
  rcases hF with rfl | ⟨l, rfl⟩
  · exact callsIn_wide.2 h
  · exact CallsIn.inRound l (callsIn_wide.2 h)

theorem opW_wpIn {F : Fence} (hF : Wd F) {n : Nat} {P : Program} {o : Oper} (hp : ∀ c, o.op ≠ .defer c) {a : Act} {w : World} {K : Act → World → Prop} {Q : Exit → Act → World → Prop} (h : opW P o a w K) : o.wpIn F n P a w K Q := by
  unfold Oper.wpIn
  refine ⟨fun f _ => hF.fn f, ?_⟩
  rw [Oper.semAt_eq _ _ _ hp]
  unfold opW at h
  split at h
  · rename_i v w' e; rw [e]; exact h
  · rename_i w' e; rw [e]; exact h
  · rename_i f args w' e
    rw [e]
    refine ⟨fun c => (by rw [hF.depth] at c; cases c), callsIn_of hF (h.mono fun e w'' ⟨v, he, hk⟩ => by subst he; exact hk)⟩
  · exact h.elim

def noDefer (ops : Array Oper) : Bool := ops.toList.all fun o => match o.op with
  | .defer _ => false
  | _ => true

theorem noDefer_at {ops : Array Oper} (h : noDefer ops = true) {i : Nat} {o : Oper} (ho : ops[i]? = some o) : ∀ c, o.op ≠ .defer c := by
  intro c e
  have hm : o ∈ ops.toList := by
    have := Array.mem_of_getElem? ho
    simpa using this
  unfold noDefer at h
  rw [List.all_eq_true] at h
  have := h o hm
  rw [e] at this
  cases this

theorem RL_wpOpsIn {F : Fence} (hF : Wd F) {n : Nat} {E : Env} {ops : Array Oper} (hp : noDefer ops = true) {Q : Exit → Act → World → Prop} {R : Act → Heap → Prop} :
    ∀ (l : List Nat) (a : Act) (w : World), RL E ops R l a w.heap → (∀ a w', Same w w' → R a w'.heap → Q .normal a w') → wpOpsIn F n E.P ops Q l a w
  | [], a, w, h, hR => hR a w (Same.refl _) h
  | i :: r, a, w, h, hR => by
    simp only [RL] at h
    unfold wpOpsIn
    split at h
    · exact h.elim
    · rename_i o ho
      simp only [ho]
      unfold stepR at h
      split at h
      · rename_i hw
        rw [if_pos hw]
        exact opW_wpIn hF (noDefer_at hp ho) (opW_mono (fun v w' hh => RL_wpOpsIn hF hp r _ _ hh.2 fun a2 w2 h2 => hR a2 w2 (hh.1.trans h2)) (stp_opW h w rfl))
      · rename_i hw
        rw [if_neg hw]
        exact ⟨fun f _ => hF.fn f, RL_wpOpsIn hF hp r _ _ h fun a2 w2 h2 => hR a2 w2 h2⟩

/-- Codes that a round's body may be. -/
def plainC : Code → Bool
  | .skip => true
  | .region _ ops false => noDefer ops
  | .seq x y => plainC x && plainC y
  | .cond _ x y => plainC x && plainC y
  | .block _ x => plainC x
  | _ => false

theorem vc_okIn {E : Env} (hE : E.Ok) {F : Fence} (hF : Wd F) {k n : Nat} {live : List Nat} : ∀ (c : Code), plainC c = true → ∀ {Q : Exit → M → Heap → Prop} {m : M} {a : Act} {w : World}, St ds n m a → vc E n live c Q m w.heap → c.wpIn F k E.P (LiftE ds n w Q) a w
  | .skip, _, Q, m, a, w, hs, h => wpIn_skip ⟨m, hs, Same.refl _, h⟩
  | .region id ops false, hp, Q, m, a, w, hs, h => by
    refine wpIn_region (RL_wpOpsIn hF hp _ a w (vcRegion_ok hE hs h) fun a w hsm hk => ?_)
    obtain ⟨m', hs', hp⟩ := hk
    obtain ⟨m2, hm, hq⟩ := pruneK_out hp
    exact ⟨m2, hs'.sub hm, hsm, hq⟩
  | .seq x y, hp, Q, m, a, w, hs, h => by
    simp only [plainC, Bool.and_eq_true] at hp
    refine wpIn_seq (wpIn_mono (vc_okIn hE hF x hp.1 (Q := seqQ (vc E n live y Q) Q) hs h) fun e a w ⟨m', hs', hsm, hq⟩ => ?_)
    cases e with
    | normal => exact wpIn_mono (vc_okIn hE hF y hp.2 hs' hq) fun e a w h => h.from hsm
    | _ => exact ⟨m', hs', hsm, hq⟩
  | .cond c x y, hp, Q, m, a, w, hs, h => by
    simp only [plainC, Bool.and_eq_true] at hp
    replace h : condK m c (vc E n live x Q m w.heap) (vc E n live y Q m w.heap) := h
    unfold condK at h
    obtain ⟨v, hv, h⟩ := withV_out h
    have ev := hs.ev hv
    split at h
    · rename_i b
      cases b with
      | true => exact wpIn_cond ev (vc_okIn hE hF x hp.1 hs h)
      | false => exact wpIn_cond ev (vc_okIn hE hF y hp.2 hs h)
    · exact h.elim
  | .region _ _ true, hp, _, _, _, _, _, _ => by cases hp
  | .block id c, hp, Q, m, a, w, hs, h => by
    refine wpIn_block (wpIn_mono (vc_okIn hE hF c hp (Q := blockQ id Q) hs h) fun e a w ⟨m', hs', hsm, hq⟩ => ?_)
    cases e with
    | exit id' =>
      simp only [blockQ] at hq
      simp only [Exit.inBlock]
      split at hq
      · rename_i hb; rw [if_pos (Nat.eq_of_beq_eq_true hb)]; exact ⟨m', hs', hsm, hq⟩
      · rename_i hb; rw [if_neg (beq_ne hb)]; exact ⟨m', hs', hsm, hq⟩
    | _ => exact ⟨m', hs', hsm, hq⟩
  | .loop _, hp, _, _, _, _, _, _ => by cases hp
  | .rangeFunc _ _ _ _, hp, _, _, _, _, _, _ => by cases hp
  | .exit _, hp, _, _, _, _, _, _ => by cases hp
  | .scope _, hp, _, _, _, _, _, _ => by cases hp
  | .label _, hp, _, _, _, _, _, _ => by cases hp
  | .goto _, hp, _, _, _, _, _, _ => by cases hp
  | .ret, hp, _, _, _, _, _, _ => by cases hp

/-! ### a function that holds a range over a function -/

/-- The code behind so many statements. -/
def seqEnd : Nat → Code → Code
  | 0, c => c
  | k + 1, .seq _ b => seqEnd k b
  | _ + 1, c => c

/-- What is to be shown of a code up to there. -/
def vcTo (E : Env) (n : Nat) (live : List Nat) (Q : Exit → M → Heap → Prop) (Hk : M → Heap → Prop) : Nat → Code → M → Heap → Prop
  | 0, _, m, h => Hk m h
  | k + 1, .seq a b, m, h => vc E n live a (seqQ (vcTo E n live Q Hk k b) Q) m h
  | _ + 1, _, _, _ => False

theorem vcTo_ok {E : Env} (hE : E.Ok) {n r : Nat} {live : List Nat} {Q : Exit → M → Heap → Prop} {Hk : M → Heap → Prop} {Post : Exit → Act → World → Prop} {w0 : World}
    (hQ : ∀ e m a w', (Unit → e ≠ .normal) → St ds n m a → Same w0 w' → Q e m w'.heap → Post e a w') : ∀ (k : Nat) (c : Code) {m : M} {a : Act} {w : World},
    (∀ m a w', St ds n m a → Same w0 w' → Hk m w'.heap → (seqEnd k c).wpIn Fence.wide r E.P Post a w') → St ds n m a → Same w0 w → vcTo E n live Q Hk k c m w.heap → c.wpIn Fence.wide r E.P Post a w
  | 0, c, m, a, w, hK, hs, hw, h => hK m a w hs hw h
  | k + 1, .seq x y, m, a, w, hK, hs, hw, h => by
    refine wpIn_seq (wpIn_wide.2 (wp_mono (vc_ok hE x (Q := seqQ (vcTo E n live Q Hk k y) Q) hs h) fun e a w ⟨m', hs', hsm, hq⟩ => ?_))
    cases e with
    | normal => exact vcTo_ok hE hQ k y hK hs' (hw.trans hsm) hq
    | ret => exact hQ _ m' a w (fun _ => by simp) hs' (hw.trans hsm) hq
    | exit id => exact hQ _ m' a w (fun _ => by simp) hs' (hw.trans hsm) hq
    | goto l => exact hQ _ m' a w (fun _ => by simp) hs' (hw.trans hsm) hq
    | panic c => exact hQ _ m' a w (fun _ => by simp) hs' (hw.trans hsm) hq
    | outgrown => exact hQ _ m' a w (fun _ => by simp) hs' (hw.trans hsm) hq
  | k + 1, .skip, _, _, _, _, _, _, h => h.elim
  | k + 1, .region _ _ _, _, _, _, _, _, _, h => h.elim
  | k + 1, .cond _ _ _, _, _, _, _, _, _, h => h.elim
  | k + 1, .block _ _, _, _, _, _, _, _, h => h.elim
  | k + 1, .loop _, _, _, _, _, _, _, h => h.elim
  | k + 1, .rangeFunc _ _ _ _, _, _, _, _, _, _, h => h.elim
  | k + 1, .exit _, _, _, _, _, _, _, h => h.elim
  | k + 1, .scope _, _, _, _, _, _, _, h => h.elim
  | k + 1, .label _, _, _, _, _, _, _, h => h.elim
  | k + 1, .goto _, _, _, _, _, _, _, h => h.elim
  | k + 1, .ret, _, _, _, _, _, _, h => h.elim

/-- The mark of a loop among a call's deferred calls. -/
def markOf (D : Nat) : Deferred := { target := .collected D, args := #[] }

/-- The results, the mark being come to. -/
def fnQD (E : Env) (rs : List ResultVar) (D : Nat) (R : Value → Heap → Prop) : Exit → M → Heap → Prop
  | .normal, m, h => h[D]? = some (.deferred (some [])) ∧ ∀ h', Upd h D (.deferred none) h' → resK E rs m h' fun vs => R (tup vs) h'
  | .ret, m, h => h[D]? = some (.deferred (some [])) ∧ ∀ h', Upd h D (.deferred none) h' → resK E rs m h' fun vs => R (tup vs) h'
  | _, _, _ => False

/-- How a call's body ends, worlds and all. -/
def EndR (w0 : World) (R : Value → Heap → Prop) : Ending → World → Prop := fun e w' => ∃ v, e = .returned v ∧ Same w0 w' ∧ R v w'.heap

theorem upd_put {w : World} {D : Nat} {o : Obj} (o' : Obj) (h : w.heap[D]? = some o) : Upd w.heap D o' (w.putObj D o').heap := by
  unfold World.putObj
  refine ⟨by simp, ?_, fun k hk => ?_⟩
  · simp only [Array.getElem?_setIfInBounds, lt_of_get h, if_true]
  · simp only [Array.getElem?_setIfInBounds]
    rw [if_neg (fun e => hk e.symm)]

theorem fnQD_post {E : Env} (hE : E.Ok) {r n D : Nat} {fn : Func} {R : Value → Heap → Prop} {w0 w : World} {a : Act} {m : M} {e : Exit} (hs : St [markOf D] n m a) (hw : Same w0 w) (h : fnQD E fn.results.toList D R e m w.heap) :
    bodyPostM Fence.wide r E.P fn (EndR w0 R) e a w := by
  have key : w.heap[D]? = some (.deferred (some [])) → (∀ h', Upd w.heap D (.deferred none) h' → resK E fn.results.toList m h' fun vs => R (tup vs) h') → LeavesInM Fence.wide r E.P fn a.tmps (EndR w0 R) a.defers .returning w := by
    intro h1 h2
    rw [hs.defers]
    refine ⟨by simp, .inl ⟨D, _, rfl, run_takeDeferred h1, ?_⟩⟩
    obtain ⟨vs, hk, hr⟩ := results_ok (w := w.putObj D (.deferred none)) hE hs (h2 _ (upd_put _ h1))
    exact ⟨_, hr, _, rfl, ⟨hw.os, hw.tape, hw.output⟩, hk⟩
  cases e with
  | normal => exact key h.1 h.2
  | ret => exact key h.1 h.2
  | exit id => exact h.elim
  | goto l => exact h.elim
  | panic c => exact h.elim
  | outgrown => exact h.elim

theorem fnQ_post {E : Env} (hE : E.Ok) {r n : Nat} {fn : Func} {R : Value → Heap → Prop} {w0 w : World} {a : Act} {m : M} {e : Exit} (hs : St [] n m a) (hw : Same w0 w) (h : fnQ E fn.results.toList R e m w.heap) :
    bodyPostM Fence.wide r E.P fn (EndR w0 R) e a w := by
  have key : resK E fn.results.toList m w.heap (fun vs => R (tup vs) w.heap) → LeavesInM Fence.wide r E.P fn a.tmps (EndR w0 R) a.defers .returning w := by
    intro h1
    rw [hs.defers]
    obtain ⟨vs, hk, hr⟩ := results_ok hE hs h1
    exact ⟨_, hr, _, rfl, hw, hk⟩
  cases e with
  | normal => exact key h
  | ret => exact key h
  | exit id => exact h.elim
  | goto l => exact h.elim
  | panic c => exact h.elim
  | outgrown => exact h.elim

theorem CallK.of_vcTo {E : Env} (hE : E.Ok) {f : Nat} {fn : Func} {c : Code} (live : List Nat) (k r : Nat) {args : List Value} {h : Heap} {R : Value → Heap → Prop} (hf : E.P.funcs[f]? = some fn) (hb : fn.body = some c)
    (hn : args.length ≤ fn.ntmps) (Hk : M → Heap → Prop)
    (hK : ∀ m a w0 w', w0.heap = h → St [] fn.ntmps m a → Same w0 w' → Hk m w'.heap → (seqEnd k c).wpIn Fence.wide r E.P (bodyPostM Fence.wide r E.P fn (EndR w0 R)) a w')
    (hh : vcTo E fn.ntmps live (fnQ E fn.results.toList R) Hk k c (slots 0 args) h) : CallK E.P f args.toArray h R := by
  refine ⟨fun w hw => ?_⟩
  refine callsIn_wide.1 (callsIn_of_wp_marks (F := Fence.wide) (n := r) (R := EndR w R) hf hb trivial ?_)
  have hs : St [] fn.ntmps (slots 0 args) { tmps := args.toArray ++ Array.replicate (fn.ntmps - args.toArray.size) undef, defers := [] } := by
    refine ⟨rfl, by simp; omega, fun t v hv => ?_⟩
    obtain ⟨_, h1⟩ := slots_look hv
    rw [Nat.sub_zero] at h1
    have hlt : t < args.length := by
      rcases Nat.lt_or_ge t args.length with h | h
      · exact h
      · rw [List.getElem?_eq_none h] at h1; cases h1
    simp only [Array.getElem?_append, List.size_toArray, hlt, if_true, List.getElem?_toArray, h1]
  refine vcTo_ok hE (ds := []) (w0 := w) (Q := fnQ E fn.results.toList R) (Hk := Hk) (fun e m a w' _ hs hw' hq => fnQ_post hE hs hw' hq) k c (fun m a w' hs hw' hq => hK m a w w' hw hs hw' hq) hs (Same.refl _) (by rw [hw]; exact hh)

/-! ### a range over a function that yields numbers -/

/-- Below block B, but for block t, the world is as it was. -/
structure BelT (t B : Nat) (w w' : World) : Prop where
  os : w'.os = w.os
  tape : w'.tape = w.tape
  output : w'.output = w.output
  size : w.heap.size ≤ w'.heap.size
  block : ∀ k, k < B → k ≠ t → w'.heap[k]? = w.heap[k]?

theorem BelT.refl (t B : Nat) (w : World) : BelT t B w w := ⟨rfl, rfl, rfl, Nat.le_refl _, fun _ _ _ => rfl⟩
theorem BelT.trans {t B : Nat} {a b c : World} (h : BelT t B a b) (k : BelT t B b c) : BelT t B a c :=
  ⟨k.os.trans h.os, k.tape.trans h.tape, k.output.trans h.output, Nat.le_trans h.size k.size, fun i hi hn => (k.block i hi hn).trans (h.block i hi hn)⟩
theorem BelT.of {t B : Nat} {a b : World} (h : Below B a b) : BelT t B a b := ⟨h.os, h.tape, h.output, h.size, fun k hk _ => h.block k hk⟩
theorem ownFrom_belT {β : Type} {t n₀ B : Nat} {w₀ : World} (hn : n₀ ≤ w₀.heap.size) (hB : n₀ ≤ B) : OwnFrom B (fun (_ : β) W => BelT t n₀ w₀ W) :=
  fun _ W W' _ hs hg hr => hs.trans (.of ((Below.refl n₀ W).grown hg (Nat.le_trans hn hs.size) (fun k e => Nat.le_trans hB (hr k e).1)))

/-- How a round's body ends. -/
def bodyQ (t B : Nat) (I : List Int → Heap → Prop) (xs : List Int) (h1 : Heap) : Exit → M → Heap → Prop
  | .normal, _, h2 => (h1.size ≤ h2.size ∧ (∀ (k : Nat) (o : Obj), h1[k]? = some o → o.isCells = false → h2[k]? = some o) ∧ ∀ k, k < B → k ≠ t → h2[k]? = h1[k]?) ∧ I xs h2
  | _, _, _ => False

theorem assign_in {F : Fence} (hF : Wd F) {k : Nat} {P : Program} {ia p d ty : Nat} {pos : String} {aft : Array Edge} {K : Act → World → Prop} {Q : Exit → Act → World → Prop} {a : Act} {W : World} (h : K (a.put (some d) (a.eval (.tmp p))) W) :
    (Code.region ia #[{ dst := some d, op := .assign (.tmp p), type := ty, pos := pos, after := aft, guard := none }] false).wpIn F k P (Exit.then K Q) a W := by
  refine wpIn_region ?_
  show wpOpsIn F k P _ _ [0] a W
  unfold wpOpsIn
  simp only [List.getElem?_toArray, List.getElem?_cons_zero]
  rw [if_pos (by simp [Region.wanted])]
  unfold Oper.wpIn
  refine ⟨fun f _ => hF.fn f, ?_⟩
  rw [Oper.semAt_eq _ _ _ (by intro c e; cases e)]
  have e : (execOp a.eval { dst := some d, op := .assign (.tmp p), type := ty, pos := pos, after := aft, guard := none }).run P W = .ok (.value (a.eval (.tmp p))) W := by simp [execOp]
  rw [e, Oper.uponIn_value]
  unfold wpOpsIn
  exact h

theorem range_blk {E : Env} (hE : E.Ok) {fn : Func} {n r : Nat} {live : List Nat} {R : Value → Heap → Prop} {m : M} {a : Act} {w0 w : World} {p d ia bid ty : Nat} {pos : String} {aft : Array Edge} {body suf : Code} {g : Operand}
    (hs : St [] n m a) (hw : Same w0 w) (hd : d < n) (hp : p < n) (hr : 2 ≤ r) {gf t : Nat} {lb : Array Value} (hg : ev m g = some (.func (.func gf) #[] lb)) (eg : ∀ args w, (callFunc gf args).run E.P w = .ok (.enter gf args) w)
    {S : List Int → Prop} {N : Nat} (hseq : SeqStopsK Fence.wide (r - 1) E.P gf lb (fun x : Int => #[.int .i64 x]) (BelT t w.heap.size) S (fun _ => True) N w)
    (I : List Int → Heap → Prop) (hI : ∀ s h1 h2, I s h1 → h1.size ≤ h2.size → (∀ (k : Nat) (o : Obj), h1[k]? = some o → (k < w.heap.size ∨ o.isCells = true) → h2[k]? = some o) → I s h2) (h0 : I [] w.heap)
    (hpl : plainC body = true)
    (hbody : ∀ pre x h1, I pre h1 → Keep (fun k => k = t) w.heap h1 → pre.length < N → vc E n live body (bodyQ t w.heap.size I (pre ++ [x]) h1) ((d, .int .i64 x) :: (p, .int .i64 x) :: m) h1)
    (hsuf : ∀ D xs h1, w.heap.size ≤ D → S xs → I xs h1 → Keep (fun k => k = t) w.heap h1 → h1[D]? = some (.deferred (some [])) → vc E n live suf (fnQD E fn.results.toList D R) m h1) :
    (Code.block bid (.rangeFunc g #[p] (.region ia #[{ dst := some d, op := .assign (.tmp p), type := ty, pos := pos, after := aft, guard := none }] false) body)).wpIn Fence.wide r E.P (Exit.then (suf.wpIn Fence.wide r E.P (bodyPostM Fence.wide r E.P fn (EndR w0 R))) (bodyPostM Fence.wide r E.P fn (EndR w0 R))) a w := by
  have keepB : ∀ {W : World}, BelT t w.heap.size w W → Keep (fun k => k = t) w.heap W.heap := fun b => ⟨b.size, fun i hi hn => b.block i hi hn⟩
  have hput : ∀ v : Value, ({ tmps := a.tmps.setIfInBounds p v, defers := [] } : Act) = a.put (some p) v := by
    intro v
    have := hs.defers
    cases a
    simp only at this
    subst this
    rfl
  refine wpIn_block ?_
  refine wpIn_rangeFunc_ownF (F := Fence.wide) rfl (by omega) (gf := gf) (lb := lb) (hs.ev hg) trivial eg hseq (fun h k => BelT.trans h k) (fun W l o o' h1 h2 h3 h4 => BelT.of (belowK_b (Nat.le_refl _) W l o o' h1 h2 h3 h4)) (Below.refl _ _) (fun _ => rfl)
    (fun s W => I s W.heap ∧ BelT t w.heap.size w W) (fun _ _ _ => False) ?_ (fun _ _ _ _ _ h _ _ => h) ⟨h0, BelT.refl _ _ _⟩ (fun x => (a.put (some p) (.int .i64 x)).put (some d) (.int .i64 x)) ?_ ?_ ?_ ?_
  · refine OwnFrom.and (fun s W W' row hs hg hr => hI s _ _ hs hg.size fun k o hk hc => ?_) (ownFrom_belT (Nat.le_refl _) (Nat.le_refl _))
    refine (hg.block k (lt_of_get hk) fun e => ?_).trans hk
    obtain ⟨h1, o', ho, hc'⟩ := hr k e.symm
    rw [hk] at ho
    injection ho with ho
    subst ho
    rcases hc with hc | hc
    · omega
    · rw [hc] at hc'; cases hc'
  · intro l x W K hK
    have e : (#[p].zip #[Value.int .i64 x]).foldl (fun t (q : Nat × Value) => t.setIfInBounds q.1 q.2) a.tmps = a.tmps.setIfInBounds p (.int .i64 x) := by simp
    show (Code.region ia _ false).wpIn _ _ _ _ { tmps := (#[p].zip #[Value.int .i64 x]).foldl (fun t (q : Nat × Value) => t.setIfInBounds q.1 q.2) a.tmps, defers := [] } W
    rw [e, hput]
    refine assign_in (.inr ⟨l, rfl⟩) ?_
    have e2 : (a.put (some p) (.int .i64 x)).eval (.tmp p) = .int .i64 x := (hs.put (v := .int .i64 x) hp).ev (x := .tmp p) (by simp [Vc.ev, look, Nat.beq_refl])
    rw [e2]
    exact hK
  · rintro l pre x W ⟨hi, hB⟩ hlen
    have hst : St [] n ((d, .int .i64 x) :: (p, .int .i64 x) :: m) ((a.put (some p) (.int .i64 x)).put (some d) (.int .i64 x)) := (hs.put hp).put hd
    refine wpIn_mono (vc_okIn hE (.inr ⟨l, rfl⟩) body hpl hst (hbody pre x W.heap hi (keepB hB) hlen)) fun e a' w' ⟨m', hs', hsm, hq⟩ => ?_
    cases e with
    | normal =>
      obtain ⟨⟨q1, q2, q3⟩, q4⟩ := hq
      have hb2 : BelT t w.heap.size W w' := ⟨hsm.os, hsm.tape, hsm.output, q1, q3⟩
      exact ⟨⟨q1, q2⟩, hb2, q4, hB.trans hb2⟩
    | _ => exact hq.elim
  · rintro D xs W hD hS ⟨hi, hB⟩ hdef
    have hst : St [markOf D] n m { a with defers := { target := .collected D, args := #[] } :: a.defers } := ⟨by rw [hs.defers]; rfl, hs.size, hs.has⟩
    show suf.wpIn Fence.wide r E.P _ _ W
    refine wpIn_wide.2 (wp_mono (vc_ok hE suf hst (hsuf D xs W.heap hD hS hi (keepB hB) hdef)) fun e a' w' ⟨m', hs', hsm, hq⟩ => ?_)
    exact fnQD_post hE hs' ((hw.trans ⟨hB.os, hB.tape, hB.output⟩).trans hsm) hq
  · intro D c pre W _ _ h _
    exact h.elim

/-- What is to be shown where a function comes to its range over a function. -/
structure RngK (E : Env) (n r : Nat) (live : List Nat) (rs : List ResultVar) (R : Value → Heap → Prop) (g : Operand) (p d : Nat) (body suf : Code) (m : M) (h : Heap) : Prop where
  out : ∃ (gf t : Nat) (lb : Array Value) (S : List Int → Prop) (N : Nat) (I : List Int → Heap → Prop),
    ev m g = some (.func (.func gf) #[] lb) ∧ (∀ args w, (callFunc gf args).run E.P w = .ok (.enter gf args) w) ∧
    (∀ w : World, w.heap = h → SeqStopsK Fence.wide (r - 1) E.P gf lb (fun x : Int => #[.int .i64 x]) (BelT t w.heap.size) S (fun _ => True) N w) ∧
    (∀ s h1 h2, I s h1 → h1.size ≤ h2.size → (∀ (k : Nat) (o : Obj), h1[k]? = some o → (k < h.size ∨ o.isCells = true) → h2[k]? = some o) → I s h2) ∧ I [] h ∧
    (∀ pre x h1, I pre h1 → Keep (fun k => k = t) h h1 → pre.length < N → vc E n live body (bodyQ t h.size I (pre ++ [x]) h1) ((d, .int .i64 x) :: (p, .int .i64 x) :: m) h1) ∧
    (∀ D xs h1, h.size ≤ D → S xs → I xs h1 → Keep (fun k => k = t) h h1 → h1[D]? = some (.deferred (some [])) → vc E n live suf (fnQD E rs D R) m h1)

theorem CallK.of_range {E : Env} (hE : E.Ok) {f : Nat} {fn : Func} {c : Code} (live : List Nat) (k r : Nat) {args : List Value} {h : Heap} {R : Value → Heap → Prop} (hf : E.P.funcs[f]? = some fn) (hb : fn.body = some c)
    (hn : args.length ≤ fn.ntmps) {pre body suf : Code} {bid ia p d ty : Nat} {pos : String} {aft : Array Edge} {g : Operand}
    (hc : seqEnd k c = .seq (.seq pre (.block bid (.rangeFunc g #[p] (.region ia #[{ dst := some d, op := .assign (.tmp p), type := ty, pos := pos, after := aft, guard := none }] false) body))) suf)
    (hd : d < fn.ntmps) (hp : p < fn.ntmps) (hr : 2 ≤ r) (hpl : plainC body = true)
    (hh : vcTo E fn.ntmps live (fnQ E fn.results.toList R) (fun m h => vc E fn.ntmps live pre (seqQ (RngK E fn.ntmps r live fn.results.toList R g p d body suf) fun _ _ _ => False) m h) k c (slots 0 args) h) : CallK E.P f args.toArray h R := by
  refine CallK.of_vcTo hE live k r hf hb hn _ (fun m a w0 w hw0 hs hw hk => ?_) hh
  rw [hc]
  refine wpIn_seq (wpIn_seq (wpIn_wide.2 (wp_mono (vc_ok hE pre hs hk) fun e a w1 ⟨m1, hs1, hsm, hq⟩ => ?_)))
  cases e with
  | normal =>
    obtain ⟨gf, t, lb, S, N, I, h1, h2, h3, h4, h5, h6, h7⟩ := RngK.out hq
    exact range_blk hE hs1 (hw.trans hsm) hd hp hr h1 h2 (h3 w1 rfl) I h4 h5 hpl h6 h7
  | _ => exact hq.elim

end Go.Vc

namespace Go.Vc
theorem wrap64_def (n : Int) : IntKind.i64.wrap n = if n % 18446744073709551616 ≥ 9223372036854775808 then n % 18446744073709551616 - 18446744073709551616 else n % 18446744073709551616 := by
  show (if (true && decide (n % 18446744073709551616 ≥ 9223372036854775808)) = true then n % 18446744073709551616 - 18446744073709551616 else n % 18446744073709551616) = _
  simp
theorem wrap64_id {n : Int} (h1 : -9223372036854775808 ≤ n) (h2 : n ≤ 9223372036854775807) : IntKind.i64.wrap n = n := by
  rw [wrap64_def]
  split <;> omega
theorem wrapu8_def (n : Int) : IntKind.u8.wrap n = n % 256 := rfl
theorem wrapu32_def (n : Int) : IntKind.u32.wrap n = n % 4294967296 := rfl
theorem wrapu64_def (n : Int) : IntKind.u64.wrap n = n % 18446744073709551616 := rfl
theorem wrapu8_id {n : Int} (h1 : 0 ≤ n) (h2 : n ≤ 255) : IntKind.u8.wrap n = n := by rw [wrapu8_def]; omega
theorem wrapu32_id {n : Int} (h1 : 0 ≤ n) (h2 : n ≤ 4294967295) : IntKind.u32.wrap n = n := by rw [wrapu32_def]; omega
theorem wrapu64_id {n : Int} (h1 : 0 ≤ n) (h2 : n ≤ 18446744073709551615) : IntKind.u64.wrap n = n := by rw [wrapu64_def]; omega

theorem iteD {p : Prop} [Decidable p] {A B : Prop} (ha : p → A) (hb : ¬ p → B) : iteB (decide p) A B := by
  by_cases h : p
  · rw [decide_eq_true h]; exact ha h
  · rw [decide_eq_false h]; exact hb h
theorem iteE {a b : Int} {A B : Prop} (ha : a = b → A) (hb : ¬ a = b → B) : iteB (a == b) A B := by
  by_cases h : a = b
  · rw [beq_iff_eq.2 h]; exact ha h
  · rw [beq_eq_false_iff_ne.2 h]; exact hb h
theorem iteN {a b : Int} {A B : Prop} (ha : ¬ a = b → A) (hb : a = b → B) : iteB (a != b) A B := by
  by_cases h : a = b
  · have : (a != b) = false := by simp [h]
    rw [this]; exact hb h
  · have : (a != b) = true := by simp [h]
    rw [this]; exact ha h
/-- Known tests. -/
theorem iteT {p : Prop} [Decidable p] {A B : Prop} (h : p) (ha : A) : iteB (decide p) A B := iteD (fun _ => ha) fun x => absurd h x
theorem iteF {p : Prop} [Decidable p] {A B : Prop} (h : ¬ p) (hb : B) : iteB (decide p) A B := iteD (fun x => absurd x h) fun _ => hb
theorem iteET {a b : Int} {A B : Prop} (h : a = b) (ha : A) : iteB (a == b) A B := iteE (fun _ => ha) fun x => absurd h x
theorem iteEF {a b : Int} {A B : Prop} (h : ¬ a = b) (hb : B) : iteB (a == b) A B := iteE (fun x => absurd x h) fun _ => hb
theorem iteNT {a b : Int} {A B : Prop} (h : ¬ a = b) (ha : A) : iteB (a != b) A B := iteN (fun _ => ha) fun x => absurd x h
theorem iteNF {a b : Int} {A B : Prop} (h : a = b) (hb : B) : iteB (a != b) A B := iteN (fun x => absurd h x) fun _ => hb

theorem Keep.mono {S S' : Nat → Prop} {h h' : Heap} (x : Keep S h h') (hs : ∀ k, k < h.size → S k → S' k) : Keep S' h h' := ⟨x.size, fun k hk hn => x.old k hk fun y => hn (hs k hk y)⟩
/-- What is written beyond the heap's end is nothing to what lay there. -/
theorem Keep.after {h0 h h' : Heap} {S : Nat → Prop} (x : Keep (fun _ => False) h0 h) (y : Keep S h h') (hs : ∀ k, k < h0.size → ¬ S k) : Keep (fun _ => False) h0 h' :=
  x.trans y fun k hk s => hs k hk s
theorem Keep.and {h0 h h' : Heap} (x : Keep (fun _ => False) h0 h) (y : Keep (fun _ => False) h h') : Keep (fun _ => False) h0 h' := x.trans y fun _ _ f => f
theorem Keep.new {h0 h h' : Heap} {o : Obj} {b : Nat} (x : Keep (fun _ => False) h0 h) (y : New h o b h') : Keep (fun _ => False) h0 h' := x.trans (y.keep (S := fun _ => False)) fun _ _ f => f
theorem Keep.upd {h0 h h' : Heap} {o : Obj} {b : Nat} (x : Keep (fun _ => False) h0 h) (y : Upd h b o h') (hb : h0.size ≤ b) : Keep (fun _ => False) h0 h' :=
  x.trans y.keep fun k hk e => by subst e; omega
/-- The same, where block g may have changed. -/
theorem Keep.newS {S : Nat → Prop} {h0 h h' : Heap} {o : Obj} {b : Nat} (x : Keep S h0 h) (y : New h o b h') : Keep S h0 h' := x.trans (y.keep (S := fun _ => False)) fun _ _ f => f.elim
theorem Keep.updS {S : Nat → Prop} {h0 h h' : Heap} {o : Obj} {b : Nat} (x : Keep S h0 h) (y : Upd h b o h') (hb : h0.size ≤ b ∨ S b) : Keep S h0 h' :=
  x.trans y.keep fun k hk e => by
    subst e
    rcases hb with h | h
    · omega
    · exact h
theorem Keep.andS {S : Nat → Prop} {h0 h h' : Heap} (x : Keep S h0 h) (y : Keep (fun _ => False) h h') : Keep S h0 h' := x.trans y fun _ _ f => f.elim
theorem Keep.thenS {S : Nat → Prop} {h0 h h' : Heap} (x : Keep S h0 h) (y : Keep S h h') : Keep S h0 h' := x.trans y fun _ _ f => f

theorem WrapK.i64 {n : Int} {K : Value → Prop} (h1 : -9223372036854775808 ≤ n) (h2 : n ≤ 9223372036854775807) (k : K (.int .i64 n)) : WrapK .i64 n K := ⟨by rw [wrap64_id h1 h2]; exact k⟩
theorem WrapK.u64 {n : Int} {K : Value → Prop} (h1 : 0 ≤ n) (h2 : n ≤ 18446744073709551615) (k : K (.int .u64 n)) : WrapK .u64 n K := ⟨by rw [wrapu64_id h1 h2]; exact k⟩
theorem WrapK.u32 {n : Int} {K : Value → Prop} (h1 : 0 ≤ n) (h2 : n ≤ 4294967295) (k : K (.int .u32 n)) : WrapK .u32 n K := ⟨by rw [wrapu32_id h1 h2]; exact k⟩
theorem WrapK.u8 {n : Int} {K : Value → Prop} (h1 : 0 ≤ n) (h2 : n ≤ 255) (k : K (.int .u8 n)) : WrapK .u8 n K := ⟨by rw [wrapu8_id h1 h2]; exact k⟩
theorem WrapK.eq {kk : IntKind} {n m : Int} {K : Value → Prop} (h : kk.wrap n = m) (k : K (.int kk m)) : WrapK kk n K := ⟨by rw [h]; exact k⟩
end Go.Vc

namespace Go.Vc

def rdLit (E : Env) (t : Nat) (l : List Value) (o : Nat) : Option Value := match E.ty t with
  | some y => match y.agg with
    | true => match y.size with
      | 0 => none
      | k + 1 => match takeL (k + 1) (dropL o l) with
        | some s => some (.agg s.toArray)
        | none => none
    | false => match dropL o l with
      | v :: _ => some v
      | [] => none
  | none => none

theorem rdLit_ok {E : Env} {t : Nat} {l : List Value} {o : Nat} {u : Value} (h : rdLit E t l o = some u) : rdCell E t l.toArray o = some u := by
  unfold rdLit at h
  unfold rdCell
  split at h
  · rename_i y hy
    split at h
    · rename_i ha
      split at h
      · cases h
      · rename_i k hk
        split at h
        · rename_i s hs
          rw [dropL_eq] at hs
          obtain ⟨e, hl⟩ := takeL_eq hs
          simp only [Option.some.injEq] at h
          subst h
          simp only [List.length_drop] at hl
          try rw [hy]
          try simp only [ha]
          try simp only [hk]
          rw [if_pos (by simp; omega)]
          simp [e]
        · cases h
    · rename_i ha
      split at h
      · rename_i v r hv
        rw [dropL_eq] at hv
        simp only [Option.some.injEq] at h
        subst h
        have : (l.drop o)[0]? = some v := by rw [hv]; rfl
        try simp only [hy, ha]
        simpa using this
      · cases h
  · cases h

theorem LdK.lit {E : Env} {t b o : Nat} {h : Heap} {l : List Value} {T : TypeId} {z : Nat × Nat} {u : Value} {K : Value → Prop} (hb : h[b]? = some (.cells l.toArray T z)) (hr : rdLit E t l o = some u) (k : K u) :
    LdK E t (.pointer (some ⟨b, o, none⟩)) h K := ⟨b, o, _, T, z, u, rfl, hb, rdLit_ok hr, k⟩

theorem LdK.gen {E : Env} {t b o : Nat} {h : Heap} {c : Array Value} {T : TypeId} {z : Nat × Nat} {u : Value} {K : Value → Prop} (hb : h[b]? = some (.cells c T z)) (hr : rdCell E t c o = some u) (k : K u) :
    LdK E t (.pointer (some ⟨b, o, none⟩)) h K := ⟨b, o, _, T, z, u, rfl, hb, hr, k⟩

def setL : List Value → Nat → Value → Option (List Value)
  | [], _, _ => none
  | _ :: r, 0, v => some (v :: r)
  | x :: r, n + 1, v => match setL r n v with
    | some s => some (x :: s)
    | none => none

def putL : List Value → Nat → List Value → Option (List Value)
  | l, _, [] => some l
  | l, o, v :: r => match oneCell v with
    | true => match setL l o v with
      | some s => putL s (o + 1) r
      | none => none
    | false => none

theorem setL_eq : ∀ {l : List Value} {n : Nat} {v : Value} {s : List Value}, setL l n v = some s → s = l.set n v ∧ n < l.length
  | [], n, v, s, h => by simp [setL] at h
  | x :: r, 0, v, s, h => by simp [setL] at h; simp [← h]
  | x :: r, n + 1, v, s, h => by
    simp only [setL] at h
    split at h
    · rename_i s' hs
      obtain ⟨e, hl⟩ := setL_eq hs
      simp only [Option.some.injEq] at h
      subst h
      exact ⟨by simp [e], by simp; omega⟩
    · cases h

theorem putL_eq : ∀ {vs l s : List Value} {o : Nat}, putL l o vs = some s → s.toArray = putCells l.toArray o vs ∧ (vs = [] ∨ o + vs.length ≤ l.length) ∧ vs.all oneCell = true
  | [], l, s, o, h => by simp [putL] at h; simp [putCells, ← h]
  | v :: r, l, s, o, h => by
    simp only [putL] at h
    split at h
    · rename_i h1
      split at h
      · rename_i s' hs
        obtain ⟨e, hl⟩ := setL_eq hs
        obtain ⟨e2, hl2, h2⟩ := putL_eq h
        refine ⟨?_, ?_, ?_⟩
        · rw [e2, e]; simp [putCells]
        · right
          rcases hl2 with h3 | h3
          · subst h3; simp; omega
          · rw [e] at h3; simp at h3 ⊢; omega
        · simp [h1, h2]
      · cases h
    · cases h

/-- A store into a block that is known whole. -/
theorem StK.lit {E : Env} {t b o : Nat} {x : Value} {h : Heap} {l l' : List Value} {T : TypeId} {y : Ty} {K : Heap → Prop} (hb : h[b]? = some (.cells l.toArray T (0, 0))) (hy : E.ty t = some y)
    (hs : Nat.beq x.cells.size y.size = true) (hnz : Nat.blt 0 y.size = true) (hp : putL l o x.cells.toList = some l') (k : ∀ h', Upd h b (.cells l'.toArray T (0, 0)) h' → K h') :
    StK E t (.pointer (some ⟨b, o, none⟩)) x h K := by
  obtain ⟨e, hl, h1⟩ := putL_eq hp
  have hs' := Nat.eq_of_beq_eq_true hs
  have hnz' : 0 < y.size := by simpa [Nat.blt_eq] using hnz
  refine ⟨b, o, _, T, y, rfl, hb, hy, hs', ?_, h1, fun h' hu => k h' ?_⟩
  · rcases hl with h2 | h2
    · have : x.cells.size = 0 := by rw [← Array.length_toList, h2]; rfl
      omega
    · rw [Array.length_toList, hs'] at h2
      simpa using h2
  · rw [e]; exact hu

theorem tup_one (v : Value) : tup [v] = v := rfl


def fillL (place : Nat → Option (Nat × Nat)) (l : List Value) : List (Nat × Value) → Option (List Value)
  | [] => some l
  | (i, v) :: r => match place i with
    | none => none
    | some (off, size) => match Nat.beq v.cells.size size && Nat.blt 0 size with
      | false => none
      | true => match putL l off v.cells.toList with
        | none => none
        | some s => fillL place s r

theorem putCells_fold : ∀ (vs : List Value) (c : Array Value) (o j : Nat), (vs.zipIdx j).foldl (fun cs (x : Value × Nat) => cs.setIfInBounds (o + x.2) x.1) c = putCells c (o + j) vs
  | [], c, o, j => by simp [putCells]
  | v :: r, c, o, j => by
    simp only [List.zipIdx_cons, List.foldl_cons, putCells]
    rw [putCells_fold r _ o (j + 1)]
    rfl

theorem fillL_ok {place : Nat → Option (Nat × Nat)} : ∀ {ps : List (Nat × Value)} {l s : List Value}, fillL place l ps = some s → Instr.fill place l.toArray ps = some s.toArray
  | [], l, s, h => by simp [fillL] at h; simp [Instr.fill, h]
  | (i, v) :: r, l, s, h => by
    simp only [fillL] at h
    unfold Instr.fill
    split at h
    · cases h
    · rename_i off size hp
      simp only [hp]
      split at h
      · cases h
      · rename_i hb
        simp only [Bool.and_eq_true] at hb
        have hsz := Nat.eq_of_beq_eq_true hb.1
        have hpos : 0 < size := by simpa [Nat.blt_eq] using hb.2
        split at h
        · cases h
        · rename_i s' hs
          obtain ⟨e, hl, _⟩ := putL_eq hs
          have hle : off + v.cells.size ≤ l.length := by
            rcases hl with h2 | h2
            · have : v.cells.size = 0 := by rw [← Array.length_toList, h2]; rfl
              omega
            · simpa using h2
          rw [if_neg (by simp [hsz]; omega)]
          have e2 : (v.cells.zipIdx.foldl (fun cs (x : Value × Nat) => cs.setIfInBounds (off + x.2) x.1) l.toArray) = s'.toArray := by
            rw [e, ← Array.foldl_toList, Array.toList_zipIdx]
            exact putCells_fold _ _ _ 0
          have := fillL_ok h
          rw [← e2] at this
          exact this

/-- A literal put together. -/
theorem FillK.lit {place : Nat → Option (Nat × Nat)} {zero : Array Value} {ps : List (Nat × Value)} {l : List Value} {K : Array Value → Prop} (h : fillL place zero.toList ps = some l) (k : K l.toArray) : FillK place zero ps K := by
  refine ⟨l.toArray, ?_, k⟩
  have := fillL_ok h
  rwa [Array.toArray_toList] at this

end Go.Vc

namespace Go.Vc

/-- Cells that are a value of a type (what the reading of an argument tells). -/
def Fm (E : Env) (h : Heap) : Nat → Nat → List Value → Prop
  | 0, _, _ => True
  | k + 1, t, cs => match E.ty t with
    | none => True
    | some y => match y.desc with
      | .bool => ∃ b, cs = [.bool b]
      | .int i => ∃ n, cs = [.int i n] ∧ (Lit.int i n).wf = true
      | .string => ∃ s : ByteArray, cs = [.string s] ∧ s.size ≤ maxLen
      | .slice e => match E.ty e with
        | none => True
        | some z => cs = [.slice none 0 0] ∨ ∃ a len cap, cs = [.slice (some a) len cap] ∧ len ≤ cap ∧ cap ≤ maxLen ∧
            (cap * z.size = 0 ∨ (a.spot = none ∧ ∃ c T fz, h[a.block]? = some (.cells c T fz) ∧ a.off + cap * z.size ≤ c.size ∧
              ∀ i, i < cap → Fm E h k e ((c.toList.drop (a.off + i * z.size)).take z.size)))
      | .struct fs => cs.length = y.size ∧ ∀ f ∈ fs.toList, match E.ty f.type with
        | none => True
        | some z => Fm E h k f.type ((cs.drop f.offset).take z.size)
      | .array n e => cs.length = y.size ∧ match E.ty e with
        | none => True
        | some z => ∀ i, i < n → Fm E h k e ((cs.drop (i * z.size)).take z.size)
      | _ => True

theorem mapM_some {α β : Type} {f : α → Option β} : ∀ {l : List α} {r : List β}, l.mapM f = some r → ∀ x ∈ l, ∃ y, f x = some y
  | [], _, _, x, hx => by simp at hx
  | a :: l, r, h, x, hx => by
    rw [List.mapM_cons] at h
    cases hf : f a with
    | none => rw [hf] at h; cases h
    | some b =>
      rw [hf] at h
      simp only [Option.bind_eq_bind, Option.bind_some] at h
      cases hl : l.mapM f with
      | none => rw [hl] at h; cases h
      | some s =>
        rcases List.mem_cons.1 hx with rfl | hx
        · exact ⟨b, hf⟩
        · exact mapM_some hl x hx
end Go.Vc
namespace Go.Vc

theorem cells_run {w : World} {b o : Nat} {c : Array Value} {T : TypeId} {fz : Nat × Nat} (hb : w.heap[b]? = some (.cells c T fz)) : ∀ {n : Nat} {l : List Value},
    (List.range n).mapM (fun i => w.cell? ((⟨b, o, none⟩ : Addr).add i)) = some l → l = (c.toList.drop o).take n ∧ (n = 0 ∨ o + n ≤ c.size)
  | 0, l, h => by simp at h; simp [h]
  | n + 1, l, h => by
    rw [List.range_succ, List.mapM_append] at h
    cases h1 : (List.range n).mapM (fun i => w.cell? ((⟨b, o, none⟩ : Addr).add i)) with
    | none => rw [h1] at h; cases h
    | some l1 =>
      rw [h1] at h
      simp only [List.mapM_cons, List.mapM_nil, Option.bind_eq_bind, Option.bind_some] at h
      have ha : (⟨b, o, none⟩ : Addr).add n = ⟨b, o + n, none⟩ := by unfold Addr.add; split <;> simp_all
      rw [ha, cell_of hb] at h
      cases h2 : c[o + n]? with
      | none => rw [h2] at h; cases h
      | some v =>
        rw [h2] at h
        simp only [Option.bind_some, Option.pure_def, Option.some.injEq] at h
        obtain ⟨e, _⟩ := cells_run hb h1
        have hlt : o + n < c.size := by
          rcases Nat.lt_or_ge (o + n) c.size with x | x
          · exact x
          · rw [Array.getElem?_eq_none x] at h2; cases h2
        refine ⟨?_, .inr (by omega)⟩
        rw [← h, e]
        have : (c.toList.drop o)[n]? = some v := by simpa using h2
        rw [List.take_add_one, this]
        rfl

theorem cell_some {w : World} {a : Addr} {v : Value} (h : w.cell? a = some v) : a.spot = none ∧ ∃ c T fz, w.heap[a.block]? = some (.cells c T fz) := by
  unfold World.cell? at h
  split at h
  · rename_i c T fz hc
    split at h
    · cases h
    · rename_i hs
      refine ⟨?_, c, T, fz, hc⟩
      cases hsp : a.spot with
      | none => rfl
      | some x => rw [hsp] at hs; simp at hs
  · cases h

theorem fm_of_trod {E : Env} (hE : E.Ok) {H : Type} {enc : TypeId × Value → H} {w : World} {held : Bool} : ∀ (k fuel t : Nat) (cs : List Value) (d : DataW H) (ps : List MemPlace),
    DataW.trod enc E.P w 0 (fun _ => true) held fuel t cs = some (d, ps) → Fm E w.heap k t cs
  | 0, _, _, _, _, _, _ => trivial
  | k + 1, 0, _, _, _, _, h => by simp [DataW.trod] at h
  | k + 1, fuel + 1, t, cs, d, ps, h => by
    have co : ∀ {e : Nat} {z : Ty}, E.ty e = some z → E.P.cellsOf e = z.size := by
      intro e z hz
      obtain ⟨i, hi, hs, _, _⟩ := (hE.ty e z hz).info
      simp [Program.cellsOf, hi, hs]
    unfold Fm
    split
    · trivial
    · rename_i y hy
      have hu := (hE.ty t y hy).und
      unfold DataW.trod at h
      rw [hu] at h
      split
      · rename_i hd
        rw [hd] at h
        split at h <;> first | (cases h; done) | skip
        all_goals simp_all
      · rename_i i hd
        rw [hd] at h
        split at h <;> first | (cases h; done) | skip
        all_goals simp_all
      · rename_i hd
        rw [hd] at h
        split at h <;> first | (cases h; done) | skip
        all_goals simp_all
      · rename_i e hd
        rw [hd] at h
        split
        · trivial
        · rename_i z hz
          split at h <;> try (first | (cases h; done) | (exfalso; simp_all; done))
          · left; rfl
          · rename_i e' a len cap he
            first | cases he | skip
            right
            refine ⟨a, len, cap, rfl, ?_⟩
            simp only [Nat.zero_le, true_and, co hz] at h
            split at h
            · rename_i hc
              refine ⟨hc.1, hc.2, ?_⟩
              by_cases h0 : cap * z.size = 0
              · exact .inl h0
              · right
                have hz0 : 0 < z.size := by rcases Nat.eq_zero_or_pos z.size with x | x; · rw [x] at h0; simp at h0
                                            · exact x
                have hc0 : 0 < cap := by rcases Nat.eq_zero_or_pos cap with x | x; · rw [x] at h0; simp at h0
                                         · exact x
                -- each element
                have hel : ∀ i, i < cap → ∃ x, ((w.cells? 0 (a.add (i * z.size)) z.size).bind (DataW.trod enc E.P w 0 (fun _ => true) held fuel e)) = some x := by
                  intro i hi
                  cases h1 : (List.range len).mapM fun i => (w.cells? 0 (a.add (i * z.size)) z.size).bind (DataW.trod enc E.P w 0 (fun _ => true) held fuel e) with
                  | none => rw [h1] at h; cases h
                  | some r1 =>
                    rw [h1] at h
                    simp only [Option.bind_some, if_true] at h
                    cases h2 : (List.range (cap - len)).mapM fun j => (w.cells? 0 (a.add ((len + j) * z.size)) z.size).bind (DataW.trod enc E.P w 0 (fun _ => true) held fuel e) with
                    | none => rw [h2] at h; cases h
                    | some r2 =>
                      rcases Nat.lt_or_ge i len with hl | hl
                      · exact mapM_some h1 i (by simpa using hl)
                      · have := mapM_some h2 (i - len) (by simp; omega)
                        rw [show len + (i - len) = i from by omega] at this
                        exact this
                have hcell : ∀ i, i < cap → ∃ l, w.cells? 0 (a.add (i * z.size)) z.size = some l ∧ Fm E w.heap k e l := by
                  intro i hi
                  obtain ⟨⟨d', p'⟩, hx⟩ := hel i hi
                  cases hl : w.cells? 0 (a.add (i * z.size)) z.size with
                  | none => rw [hl] at hx; cases hx
                  | some l =>
                    rw [hl] at hx
                    exact ⟨l, rfl, fm_of_trod hE k fuel e l d' p' hx⟩
                obtain ⟨l0, hl0, _⟩ := hcell 0 hc0
                have hsp : a.spot = none ∧ ∃ c T fz, w.heap[a.block]? = some (.cells c T fz) := by
                  simp only [World.cells?, Nat.zero_le, if_true, Nat.zero_mul] at hl0
                  obtain ⟨v, hv⟩ := mapM_some hl0 0 (by simpa using hz0)
                  have : (a.add 0).add 0 = a := rfl
                  rw [this] at hv
                  exact cell_some hv
                obtain ⟨hs, c, T, fz, hb⟩ := hsp
                have hadd : ∀ i, a.add (i * z.size) = ⟨a.block, a.off + i * z.size, none⟩ := by
                  intro i
                  unfold Addr.add
                  split
                  · rename_i h1; rw [h1]; cases a; simp_all
                  · rfl
                refine ⟨hs, c, T, fz, hb, ?_, ?_⟩
                · obtain ⟨l, hl, _⟩ := hcell (cap - 1) (by omega)
                  simp only [World.cells?, Nat.zero_le, if_true, hadd] at hl
                  obtain ⟨_, h2⟩ := cells_run hb hl
                  have e3 : (cap - 1) * z.size + z.size = cap * z.size := by
                    have : cap = cap - 1 + 1 := by omega
                    conv => rhs; rw [this, Nat.add_mul, Nat.one_mul]
                  omega
                · intro i hi
                  obtain ⟨l, hl, hf⟩ := hcell i hi
                  simp only [World.cells?, Nat.zero_le, if_true, hadd] at hl
                  obtain ⟨h1, _⟩ := cells_run hb hl
                  rw [← h1]
                  exact hf
            · cases h
      · rename_i fs hd
        rw [hd] at h
        split at h <;> try (first | (cases h; done) | (exfalso; simp_all; done))
        rename_i fs' he
        cases he
        rename_i cs _ _
        split at h
        · rename_i hc
          refine ⟨by rw [hc, co hy], fun f hf => ?_⟩
          split
          · trivial
          · rename_i z hz
            cases h1 : fs.toList.mapM fun f => DataW.trod enc E.P w 0 (fun _ => true) held fuel f.type ((cs.drop f.offset).take (E.P.cellsOf f.type)) with
            | none => rw [h1] at h; cases h
            | some r =>
              obtain ⟨⟨d', p'⟩, hx⟩ := mapM_some h1 f hf
              rw [co hz] at hx
              exact fm_of_trod hE k fuel f.type _ d' p' hx
        · cases h
      · rename_i n e hd
        rw [hd] at h
        split at h <;> try (first | (cases h; done) | (exfalso; simp_all; done))
        rename_i n' e' he
        cases he
        rename_i cs _ _
        split at h
        · rename_i hc
          refine ⟨by rw [hc, co hy], ?_⟩
          split
          · trivial
          · rename_i z hz
            intro i hi
            cases h1 : (List.range n).mapM fun i => DataW.trod enc E.P w 0 (fun _ => true) held fuel e ((cs.drop (i * E.P.cellsOf e)).take (E.P.cellsOf e)) with
            | none => rw [h1] at h; cases h
            | some r =>
              obtain ⟨⟨d', p'⟩, hx⟩ := mapM_some h1 i (by simpa using hi)
              rw [co hz] at hx
              exact fm_of_trod hE k fuel e _ d' p' hx
        · cases h
      · trivial

end Go.Vc
namespace Go.Vc

/-- An argument: its cells are formed, and it is an aggregate just if its type is one. -/
structure Arg (E : Env) (h : Heap) (t : Nat) (v : Value) : Prop where
  fm : ∀ k, Fm E h k t v.cells.toList
  agg : ∀ y, E.ty t = some y → y.agg = true → ∃ cs, v = .agg cs
  one : ∀ y, E.ty t = some y → y.agg = false → v.cells = #[v]

theorem cell_one {P : Program} {w : World} {r : Reach} {base : Nat} {t : TypeId} {v : Value} (h : Cell.okWide P w r base t v) : v.cells = #[v] := by
  cases v with
  | agg cs =>
    exfalso
    unfold Cell.okWide at h
    split at h <;> first | (unfold Cell.ok at h; split at h <;> simp_all; done) | simp_all
  | _ => rfl

theorem Arg.of {E : Env} (hE : E.Ok) {w : World} {r : Reach} {base : Nat} {t : Nat} {v : Value} {H : Type} {enc : TypeId × Value → H} {held : Bool} {d : DataW H} {ps : List MemPlace}
    (hv : Value.okWide E.P w r base t v) (hd : DataW.Trod enc E.P w 0 (fun _ => true) held t v d ps) : Arg E w.heap t v := by
  obtain ⟨fuel, hf⟩ := hd
  refine ⟨fun k => fm_of_trod hE k fuel t _ d ps hf, fun y hy ha => ?_, fun y hy ha => ?_⟩
  · have hu := (hE.ty t y hy).und
    have hag := (hE.ty t y hy).agg
    unfold Value.okWide at hv
    rw [hu] at hv
    rw [ha] at hag
    cases hd : y.desc <;> rw [hd] at hag hv <;> first | (cases hag; done) | (obtain ⟨cs, rfl, _⟩ := hv; exact ⟨cs, rfl⟩)
  · have hu := (hE.ty t y hy).und
    have hag := (hE.ty t y hy).agg
    unfold Value.okWide at hv
    rw [hu] at hv
    rw [ha] at hag
    cases hd : y.desc <;> rw [hd] at hag hv <;> first | (cases hag; done) | exact cell_one hv

end Go.Vc

namespace Go.Vc

/-! ### '==' -/

def allB : List (Option Bool) → Option Bool
  | [] => some true
  | x :: r => match x with
    | none => none
    | some b => match allB r with
      | none => none
      | some c => some (b && c)

def eqB (E : Env) : Nat → Nat → List Value → List Value → Option Bool
  | 0, _, _, _ => none
  | k + 1, t, xs, ys => match E.ty t with
    | none => none
    | some y => match y.desc with
      | .bool => match xs, ys with
        | [.bool a], [.bool b] => some (a == b)
        | _, _ => none
      | .int _ => match xs, ys with
        | [.int i a], [.int j b] => match Nat.beq (kc i) (kc j) with
          | true => some (a == b)
          | false => none
        | _, _ => none
      | .string => match xs, ys with
        | [.string a], [.string b] => some (a == b)
        | _, _ => none
      | .struct fs => match E.P.stoodInHeld t with
        | true => none
        | false => allB (fs.toList.map fun f => match f.name == "_" with
          | true => some true
          | false => match E.ty f.type with
            | none => none
            | some z => eqB E k f.type ((xs.drop f.offset).take z.size) ((ys.drop f.offset).take z.size))
      | .array n e => match E.ty e with
        | none => none
        | some z => allB ((List.range n).map fun i => eqB E k e ((xs.drop (i * z.size)).take z.size) ((ys.drop (i * z.size)).take z.size))
      | _ => none

/-- A value of a type, out of its cells. -/
def ofCells (agg : Bool) (cs : List Value) : Value := match agg with
  | true => .agg cs.toArray
  | false => match cs with
    | v :: _ => v
    | [] => undef

theorem forIn_body {P : Program} {α : Type} {B : α → Option Bool × Unit → Sem (ForInStep (Option Bool × Unit))} (g : α → Option Bool) {w : World} : ∀ {l : List α} {b : Bool}, allB (l.map g) = some b →
    (∀ x ∈ l, ∀ c, g x = some c → (B x (none, ())).run P w = .ok (match c with
      | true => .yield (none, ())
      | false => .done (some false, ())) w) →
    (forIn (m := Sem) l (none, ()) B).run P w = .ok (match b with
      | true => (none, ())
      | false => (some false, ())) w
  | [], b, h, _ => by simp [allB] at h; subst h; simp
  | x :: r, b, h, hf => by
    simp only [List.map_cons, allB] at h
    split at h
    · cases h
    · rename_i c hc
      split at h
      · cases h
      · rename_i d hd
        simp only [Option.some.injEq] at h
        subst h
        have h1 := hf x (by simp) c hc
        have h2 := forIn_body (P := P) (B := B) g hd (fun y hy => hf y (by simp [hy]))
        simp only [List.forIn_cons, Sem.run_bind, h1, Result.andThen_ok]
        cases c with
        | true => simpa using h2
        | false => simp

end Go.Vc
namespace Go.Vc

theorem part_cells {E : Env} (hE : E.Ok) {t : Nat} {z : Ty} (hz : E.ty t = some z) {xs : List Value} {off : Nat}
    (h : z.agg = true ∨ ∃ v, (xs.drop off).take z.size = [v]) (w : World) : (Go.part t xs.toArray off).run E.P w = .ok (ofCells z.agg ((xs.drop off).take z.size)) w := by
  cases ha : z.agg with
  | true =>
    simp only [Go.part, Sem.run_bind, hE.isAgg hz, ha, Result.andThen_ok, if_true, hE.sizeOf hz, Sem.run_pure, ofCells]
    congr 2
    simp
  | false =>
    rcases h with h | ⟨v, hv⟩
    · rw [ha] at h; cases h
    · have h1 : xs[off]? = some v := by
        have h2 : ((xs.drop off).take z.size)[0]? = some v := by rw [hv]; rfl
        rw [List.getElem?_take] at h2
        split at h2
        · simpa using h2
        · cases h2
      simp only [Go.part, Sem.run_bind, hE.isAgg hz, ha, Result.andThen_ok, Bool.false_eq_true, if_false, hv, ofCells]
      rw [show xs.toArray[off]? = some v by simpa using h1]
      rfl

theorem eqB_one {E : Env} {k t : Nat} {xs ys : List Value} {b : Bool} (h : eqB E k t xs ys = some b) : ∃ y, E.ty t = some y ∧ (isAggD y.desc = true ∨ ((∃ v, xs = [v]) ∧ ∃ v, ys = [v])) := by
  cases k with
  | zero => simp [eqB] at h
  | succ k =>
    unfold eqB at h
    split at h
    · cases h
    · rename_i y hy
      refine ⟨y, hy, ?_⟩
      split at h
      all_goals first
        | (cases h; done)
        | (rename_i hd; left; rw [hd]; rfl)
        | (right; split at h <;> first | (cases h; done) | exact ⟨⟨_, rfl⟩, _, rfl⟩)

theorem eq_ok {E : Env} (hE : E.Ok) : ∀ (k d t : Nat) (xs ys : List Value) (b : Bool) (y : Ty), k ≤ d → E.ty t = some y → eqB E k t xs ys = some b →
    ∀ w, (Op.equalIn d t (ofCells y.agg xs) (ofCells y.agg ys)).run E.P w = .ok b w
  | 0, _, _, _, _, _, _, _, _, h => by simp [eqB] at h
  | k + 1, 0, _, _, _, _, _, hd, _, _ => by omega
  | k + 1, d + 1, t, xs, ys, b, y, hkd, hy, h => by
    intro w
    have hag := (hE.ty t y hy).agg
    unfold eqB at h
    rw [hy] at h
    simp only at h
    have sub : ∀ (e : Nat) (z : Ty) (o : Nat) (c : Bool), E.ty e = some z → eqB E k e ((xs.drop o).take z.size) ((ys.drop o).take z.size) = some c →
        ∀ w, (do let p ← Go.part e xs.toArray o; let q ← Go.part e ys.toArray o; Op.equalIn d e p q : Sem Bool).run E.P w = .ok c w := by
      intro e z o c hz hc w
      obtain ⟨z', hz', h1⟩ := eqB_one hc
      rw [hz] at hz'
      cases hz'
      have hzag := (hE.ty e z hz).agg
      rw [hzag] at h1
      simp only [Sem.run_bind]
      rw [part_cells hE hz (h1.imp id fun x => x.1)]
      simp only [Result.andThen_ok]
      rw [part_cells hE hz (h1.imp id fun x => x.2)]
      simp only [Result.andThen_ok]
      exact eq_ok hE k d e _ _ c z (by omega) hz hc w
    split at h
    · rename_i hd
      rw [hd] at hag
      rw [← hag]
      split at h
      · simp only [Option.some.injEq] at h
        simp [Op.equalIn, hE.underlying hy, hd, ofCells, isAggD, h]
      · cases h
    · rename_i hd
      rw [hd] at hag
      rw [← hag]
      split at h
      · split at h
        · rename_i hk
          cases kc_inj hk
          simp only [Option.some.injEq] at h
          simp [Op.equalIn, hE.underlying hy, hd, ofCells, isAggD, h]
        · cases h
      · cases h
    · rename_i hd
      rw [hd] at hag
      rw [← hag]
      split at h
      · simp only [Option.some.injEq] at h
        simp [Op.equalIn, hE.underlying hy, hd, ofCells, isAggD, h]
      · cases h
    · rename_i fs hd
      rw [hd] at hag
      rw [← hag]
      split at h
      · cases h
      · rename_i hst
        simp only [ofCells, isAggD, Op.equalIn, Sem.run_bind, hE.underlying hy, Result.andThen_ok, hd, run_program, hst]
        rw [if_neg (by simp), ← Array.forIn_toList, Sem.run_bind]
        rw [forIn_body (P := E.P) (fun f => match f.name == "_" with
          | true => some true
          | false => match E.ty f.type with
            | none => none
            | some z => eqB E k f.type ((xs.drop f.offset).take z.size) ((ys.drop f.offset).take z.size)) h (by
            intro f hf c hc
            split at hc
            · rename_i hn
              have : f.name = "_" := by simpa using hn
              cases hc
              simp [this]
            · rename_i hn
              have : ¬ f.name = "_" := by simpa using hn
              split at hc
              · cases hc
              · rename_i z hz
                have h3 := sub f.type z f.offset c hz hc w
                simp only [Sem.run_bind] at h3
                rw [if_pos this]
                simp only [Sem.run_bind]
                cases h4 : (Go.part f.type xs.toArray f.offset).run E.P w with
                | halt x y => rw [h4] at h3; cases h3
                | ok p w1 =>
                  rw [h4] at h3
                  simp only [Result.andThen_ok] at h3 ⊢
                  cases h5 : (Go.part f.type ys.toArray f.offset).run E.P w1 with
                  | halt x y => rw [h5] at h3; cases h3
                  | ok q w2 =>
                    rw [h5] at h3
                    simp only [Result.andThen_ok] at h3 ⊢
                    rw [h3]
                    cases c <;> simp)]
        cases b <;> simp
    · rename_i n e hd
      rw [hd] at hag
      rw [← hag]
      split at h
      · cases h
      · rename_i z hz
        simp only [ofCells, isAggD, Op.equalIn, Sem.run_bind, hE.underlying hy, Result.andThen_ok, hd, hE.sizeOf hz]
        rw [Std.Legacy.Range.forIn_eq_forIn_range']
        have hr : List.range' (Std.Legacy.Range.mk 0 n 1 (by omega)).start (Std.Legacy.Range.mk 0 n 1 (by omega)).size (Std.Legacy.Range.mk 0 n 1 (by omega)).step = List.range n := by
          simp [Std.Legacy.Range.size, List.range_eq_range']
        rw [hr]
        rw [forIn_body (P := E.P) (fun i => eqB E k e ((xs.drop (i * z.size)).take z.size) ((ys.drop (i * z.size)).take z.size)) h (by
          intro i hi c hc
          have h3 := sub e z (i * z.size) c hz hc w
          simp only [Sem.run_bind] at h3 ⊢
          cases h4 : (Go.part e xs.toArray (i * z.size)).run E.P w with
          | halt x y => rw [h4] at h3; cases h3
          | ok p w1 =>
            rw [h4] at h3
            simp only [Result.andThen_ok] at h3 ⊢
            cases h5 : (Go.part e ys.toArray (i * z.size)).run E.P w1 with
            | halt x y => rw [h5] at h3; cases h3
            | ok q w2 =>
              rw [h5] at h3
              simp only [Result.andThen_ok] at h3 ⊢
              rw [h3]
              cases c <;> simp)]
        cases b <;> simp
    · cases h


/-- '==' on values of a type that is not an interface, out of their cells. -/
theorem EqR.gen {E : Env} (hE : E.Ok) {t : Nat} {y : Ty} {xs ys : List Value} {b : Bool} (hy : E.ty t = some y) (hg : E.P.eqGuardType E.P.depth t = false) (h : eqB E 20 t xs ys = some b) :
    EqR E.P t (ofCells y.agg xs) (ofCells y.agg ys) b := by
  refine ⟨fun w => eq_ok hE 20 Op.maxDepth t xs ys b y (by decide) hy h w, fun op ox oy w => ?_⟩
  obtain ⟨y', hy', h1⟩ := eqB_one h
  rw [hy] at hy'
  cases hy'
  have hag := (hE.ty t y hy).agg
  cases ha : y.agg with
  | true =>
    unfold eqGuard
    cases op <;> simp [ofCells, hg]
  | false =>
    rw [hag, ha] at h1
    simp only [Bool.false_eq_true, false_or] at h1
    obtain ⟨⟨v, rfl⟩, u, rfl⟩ := h1
    unfold eqGuard
    have hd : ∀ cs, ofCells false [v] ≠ .agg cs := by
      intro cs hc
      simp only [ofCells] at hc
      subst hc
      unfold eqB at h
      rw [hy] at h
      simp only at h
      rw [ha] at hag
      cases hdd : y.desc <;> rw [hdd] at h hag <;> first | (cases hag; done) | (simp at h; done)
    have hd2 : ofCells false [v] ≠ .nilIface := by
      intro hc
      simp only [ofCells] at hc
      subst hc
      unfold eqB at h
      rw [hy] at h
      simp only at h
      rw [ha] at hag
      cases hdd : y.desc <;> rw [hdd] at h hag <;> first | (cases hag; done) | (simp at h; done)
    cases op <;> first | (simp; done) | skip
    all_goals
      try simp only
      split <;> first | (simp; done) | (rename_i h1 h2 _; exact absurd h1 hd2) | (rename_i h1 _ _; exact absurd h1 (hd _)) | simp_all

theorem EqK.gen {E : Env} (hE : E.Ok) {t : Nat} {y : Ty} {x z : Value} {xs ys : List Value} {b : Bool} {K : Bool → Prop} (hy : E.ty t = some y) (hg : E.P.eqGuardType E.P.depth t = false)
    (hx : x = ofCells y.agg xs) (hz : z = ofCells y.agg ys) (h : eqB E 20 t xs ys = some b) (k : K b) : EqK E.P t x z K := by
  subst hx hz
  exact ⟨b, EqR.gen hE hy hg h, k⟩

theorem ptr_nil_run {E : Env} (hE : E.Ok) {t e d : Nat} {y : Ty} {a : Option Addr} (hy : E.ty t = some y) (hd : y.desc = .pointer e) (w : World) :
    (Op.equalIn (d + 1) t (.pointer a) (.pointer none)).run E.P w = .ok a.isNone w := by
  cases a <;> simp [Op.equalIn, hE.underlying hy, hd]

/-- A pointer against nil. -/
theorem EqK.ptr_nil {E : Env} (hE : E.Ok) {t e : Nat} {y : Ty} {a : Addr} {K : Bool → Prop} (hy : E.ty t = some y) (hd : y.desc = .pointer e) (k : K false) : EqK E.P t (.pointer (some a)) (.pointer none) K :=
  ⟨false, ⟨fun w => ptr_nil_run hE (d := 9999) hy hd w, fun op ox oy w => by cases op <;> simp [eqGuard]⟩, k⟩
theorem EqK.nil_nil {E : Env} (hE : E.Ok) {t e : Nat} {y : Ty} {K : Bool → Prop} (hy : E.ty t = some y) (hd : y.desc = .pointer e) (k : K true) : EqK E.P t (.pointer none) (.pointer none) K :=
  ⟨true, ⟨fun w => ptr_nil_run hE (d := 9999) hy hd w, fun op ox oy w => by cases op <;> simp [eqGuard]⟩, k⟩

end Go.Vc

namespace Go.Vc

/-! ### Slices that came in: their elements -/

structure Elem (h : Heap) (A : Option Addr) (off size : Nat) (cs : List Value) : Prop where
  out : ∃ b o c T fz, A = some ⟨b, o, none⟩ ∧ h[b]? = some (.cells c T fz) ∧ o + off + size ≤ c.size ∧ cs = (c.toList.drop (o + off)).take size

theorem Elem.keep {h h' : Heap} {A : Option Addr} {off size : Nat} {cs : List Value} (x : Elem h A off size cs) (hk : Keep (fun _ => False) h h') : Elem h' A off size cs := by
  obtain ⟨b, o, c, T, fz, hA, hb, hl, hc⟩ := x.out
  exact ⟨b, o, c, T, fz, hA, hk.get hb (fun f => f), hl, hc⟩

theorem Elem.some {h : Heap} {A : Option Addr} {off size : Nat} {cs : List Value} (x : Elem h A off size cs) : ∃ b o, A = .some ⟨b, o, none⟩ := by
  obtain ⟨b, o, c, T, fz, hA, _⟩ := x.out
  exact ⟨b, o, hA⟩

theorem LdK.elem {E : Env} {t b o p off : Nat} {h : Heap} {cs : List Value} {y : Ty} {K : Value → Prop} (x : Elem h (some ⟨b, o, none⟩) off y.size cs) (hy : E.ty t = some y)
    (hp : p = o + off) (ha : y.agg = true ∨ ∃ v, cs = [v]) (k : K (ofCells y.agg cs)) : LdK E t (.pointer (some ⟨b, p, none⟩)) h K := by
  obtain ⟨b', o', c, T, fz, hA, hb, hl, hc⟩ := x.out
  simp only [Option.some.injEq, Addr.mk.injEq, and_true] at hA
  obtain ⟨rfl, rfl⟩ := hA
  subst hp
  refine ⟨b, _, c, T, fz, _, rfl, hb, ?_, k⟩
  unfold rdCell
  rw [hy]
  cases hag : y.agg with
  | true =>
    simp only [hag, if_pos hl, ofCells, hc]
    congr 2
    apply Array.toList_inj.1
    simp
  | false =>
    rw [hag] at ha
    simp only [Bool.false_eq_true, false_or] at ha
    obtain ⟨v, hv⟩ := ha
    subst hv
    simp only [hag, ofCells]
    have h2 : ((c.toList.drop (o + off)).take y.size)[0]? = some v := by rw [← hc]; rfl
    rw [List.getElem?_take] at h2
    split at h2
    · simpa using h2
    · cases h2

theorem Arg.slice {E : Env} {h : Heap} {t e : Nat} {v : Value} {y z : Ty} (a : Arg E h t v) (hy : E.ty t = some y) (hd : y.desc = .slice e) (hag : y.agg = false) (hz : E.ty e = some z) (hpos : 0 < z.size) :
    ∃ A n cap, v = .slice A n cap ∧ n ≤ cap ∧ cap ≤ maxLen ∧ ∀ k i, i < n → ∃ cs, Elem h A (i * z.size) z.size cs ∧ Fm E h k e cs := by
  have h1 := a.one y hy hag
  have hf : ∀ k, v.cells.toList = [.slice none 0 0] ∨ ∃ a len cap, v.cells.toList = [.slice (some a) len cap] ∧ len ≤ cap ∧ cap ≤ maxLen ∧
            (cap * z.size = 0 ∨ (a.spot = none ∧ ∃ c T fz, h[a.block]? = some (.cells c T fz) ∧ a.off + cap * z.size ≤ c.size ∧
              ∀ i, i < cap → Fm E h k e ((c.toList.drop (a.off + i * z.size)).take z.size))) := by
    intro k
    have := a.fm (k + 1)
    unfold Fm at this
    rw [hy] at this
    simp only [hd, hz] at this
    exact this
  rw [h1] at hf
  rcases hf 0 with h0 | ⟨A, len, cap, h0, hl, hc, _⟩
  · simp only [List.cons.injEq, and_true] at h0
    exact ⟨none, 0, 0, h0, Nat.le_refl _, Nat.zero_le _, fun k i hi => by omega⟩
  · simp only [List.cons.injEq, and_true] at h0
    subst h0
    refine ⟨some A, len, cap, rfl, hl, hc, fun k i hi => ?_⟩
    rcases hf k with h0 | ⟨A', len', cap', h0, _, _, hx⟩
    · simp at h0
    · simp only [List.cons.injEq, Value.slice.injEq, Option.some.injEq, and_true] at h0
      obtain ⟨rfl, rfl, rfl⟩ := h0
      rcases hx with hx | ⟨hs, c, T, fz, hb, hle, hel⟩
      · exfalso
        rcases Nat.mul_eq_zero.1 hx with h3 | h3 <;> omega
      · refine ⟨_, ⟨A.block, A.off, c, T, fz, by cases A; simp_all, hb, ?_, rfl⟩, hel i (by omega)⟩
        have : (i + 1) * z.size ≤ cap * z.size := Nat.mul_le_mul_right _ (by omega)
        rw [Nat.add_mul, Nat.one_mul] at this
        omega

/-- A list out of what each place holds. -/
theorem choose_list {α : Type} {P : Nat → α → Prop} : ∀ (n : Nat), (∀ i, i < n → ∃ x, P i x) → ∃ L : List α, L.length = n ∧ ∀ i x, L[i]? = some x → P i x
  | 0, _ => ⟨[], rfl, fun i x h => by simp at h⟩
  | n + 1, h => by
    obtain ⟨L, hl, hL⟩ := choose_list n (fun i hi => h i (by omega))
    obtain ⟨x, hx⟩ := h n (by omega)
    refine ⟨L ++ [x], by simp [hl], fun i y hy => ?_⟩
    rw [List.getElem?_append] at hy
    split at hy
    · exact hL i y hy
    · have : i = n := by
        rcases Nat.lt_or_ge (i - L.length) 1 with h1 | h1
        · omega
        · rw [List.getElem?_eq_none (by simpa using h1)] at hy; cases hy
      subst this
      rw [hl, Nat.sub_self] at hy
      simp only [List.getElem?_cons_zero, Option.some.injEq] at hy
      subst hy
      exact hx

theorem maxLen_eq : maxLen = 9223372036854775807 := by decide

end Go.Vc
