import Derived.Test.YtddfjnjhgeofmaaFdb6
namespace Go.Proofs.Ytddfjnjhgeofmaa
open Go.Vc
set_option maxRecDepth 10000
set_option maxHeartbeats 4000000

/-! ### fdb: the model's keys -/

structure FKey where
  vid : Int
  mac : Mac6

instance : DecidableEq FKey := fun a b => by
  cases a; cases b
  simp only [FKey.mk.injEq]
  infer_instance

def FKey.cells (k : FKey) : List Value := .int .i64 k.vid :: k.mac.cells
def FKey.enc (k : FKey) : Value := .agg k.cells.toArray

structure FVal where
  port : Int
  seen : Int

def FVal.cells (x : FVal) : List Value := [.int .i64 x.port, .int .i64 x.seen]
def FVal.enc (x : FVal) : Value := .agg x.cells.toArray

def macT : Ty := ⟨.array 6 5, 6, 6, true, some (.agg #[.int .u8 0, .int .u8 0, .int .u8 0, .int .u8 0, .int .u8 0, .int .u8 0])⟩
def u8TC : Ty := ⟨.int .u8, 1, 1, false, some (.int .u8 0)⟩
def fkeyT : Ty := ⟨.struct #[⟨ "vid", 3, 0, false, "", "bargate/bargatelaw12", 0⟩, ⟨ "mac", 37, 1, false, "", "bargate/bargatelaw12", 8⟩], 7, 16, true, some (.agg #[.int .i64 0, .int .u8 0, .int .u8 0, .int .u8 0, .int .u8 0, .int .u8 0, .int .u8 0])⟩

theorem mac_check (c : Bool) (d : Nat) (m : Mac6) (w : World) : (Instr.checkKey c (d + 2) 37 (.agg m.cells.toArray)).run EW.P w = .ok () w := by
  have hu := EW_ok.underlying (t := 37) (y := macT) rfl w
  have hz : EW.ty 5 = some u8TC := rfl
  have hp : ∀ (i : Nat) (v : Value), (m.cells.drop i).take 1 = [v] → (Go.part 5 m.cells.toArray i).run EW.P w = .ok v w := by
    intro i v hv
    have := part_cells EW_ok hz (xs := m.cells) (off := i) (.inr ⟨v, hv⟩) w
    rw [this, show (List.drop i m.cells).take u8TC.size = [v] from hv]
    rfl
  have hc : ∀ (a : Int), (Instr.checkKey c (d + 1) 5 (.int .u8 a)).run EW.P w = .ok () w := fun a => int_check_run EW_ok hz rfl w
  have h0 := hp 0 _ rfl
  have h1 := hp 1 _ rfl
  have h2 := hp 2 _ rfl
  have h3 := hp 3 _ rfl
  have h4 := hp 4 _ rfl
  have h5 := hp 5 _ rfl
  have hs : (Go.sizeOf 5).run EW.P w = .ok 1 w := EW_ok.sizeOf hz w
  rw [Instr.checkKey]
  simp only [Sem.run_bind, hu, Result.andThen_ok, macT]
  simp only [Std.Legacy.Range.forIn_eq_forIn_range', Std.Legacy.Range.size]
  rw [show List.range' 0 ((6 - 0 + 1 - 1) / 1) 1 = [0, 1, 2, 3, 4, 5] from rfl]
  simp only [List.forIn_cons, List.forIn_nil, Sem.run_bind, hs, Result.andThen_ok, Nat.mul_one, h0, h1, h2, h3, h4, h5, hc, Sem.run_pure]

theorem fkey_check (c : Bool) (k : FKey) (w : World) : (Instr.checkKey c 10000 57 k.enc).run EW.P w = .ok () w := by
  have hu := EW_ok.underlying (t := 57) (y := fkeyT) rfl w
  have h0 : (Go.part 3 k.cells.toArray 0).run EW.P w = .ok (.int .i64 k.vid) w := by
    have := part_cells EW_ok (t := 3) (z := i64T) rfl (xs := k.cells) (off := 0) (.inr ⟨_, rfl⟩) w
    exact this
  have h1 : (Go.part 37 k.cells.toArray 1).run EW.P w = .ok (.agg k.mac.cells.toArray) w := by
    have := part_cells EW_ok (t := 37) (z := macT) rfl (xs := k.cells) (off := 1) (.inl rfl) w
    exact this
  have hc : ∀ (a : Int), (Instr.checkKey c (9998 + 1) 3 (.int .i64 a)).run EW.P w = .ok () w := fun a => int_check_run EW_ok (y := i64T) rfl rfl w
  have hm : (Instr.checkKey c 9999 37 (.agg k.mac.cells.toArray)).run EW.P w = .ok () w := mac_check c 9997 k.mac w
  show (Instr.checkKey c (9999 + 1) 57 (.agg k.cells.toArray)).run EW.P w = .ok () w
  rw [Instr.checkKey]
  simp only [Sem.run_bind, hu, Result.andThen_ok, fkeyT]
  simp only [List.forIn_toArray, List.forIn_cons, List.forIn_nil, Sem.run_bind, Result.andThen_ok, h0, h1, Sem.run_pure, ne_eq, String.reduceEq, not_false_eq_true, if_true]
  rw [hc]
  simp only [Sem.run_bind, Result.andThen_ok, Sem.run_pure, h1, hm]

theorem fkey_eq (a b : FKey) : eqB EW 20 57 a.cells b.cells = some (decide (a = b)) := by
  have ht : decide (a = b) = true ↔ a = b := decide_eq_true_iff
  generalize decide (a = b) = q at ht
  obtain ⟨av, a0, a1, a2, a3, a4, a5⟩ := a
  obtain ⟨bv, b0, b1, b2, b3, b4, b5⟩ := b
  have h : eqB EW 20 57 (FKey.mk av (Mac6.mk a0 a1 a2 a3 a4 a5)).cells (FKey.mk bv (Mac6.mk b0 b1 b2 b3 b4 b5)).cells = some ((av == bv) && ((((a0.toNat : Int) == (b0.toNat : Int)) && (((a1.toNat : Int) == (b1.toNat : Int)) && (((a2.toNat : Int) == (b2.toNat : Int)) && (((a3.toNat : Int) == (b3.toNat : Int)) && (((a4.toNat : Int) == (b4.toNat : Int)) && (((a5.toNat : Int) == (b5.toNat : Int)) && true)))))) && true)) := by
    kernel_rfl
  rw [h, u8_eq, u8_eq, u8_eq, u8_eq, u8_eq, u8_eq]
  congr 1
  rw [Bool.eq_iff_iff, ht]
  simp only [Bool.and_eq_true, decide_eq_true_eq, beq_iff_eq, FKey.mk.injEq, Mac6.mk.injEq, and_true]

theorem fkey_ok : KeyT EW 57 FKey.enc where
  check c k w := fkey_check c k w
  eq a b w := (EqR.gen EW_ok (t := 57) (y := fkeyT) (xs := a.cells) (ys := b.cells) rfl (by kernel_rfl) (fkey_eq a b)).eq w
  now d a b h := by
    have h2 : EW.P.underlying 57 = some fkeyT.desc := (EW_ok.ty _ _ rfl).und
    rw [h2] at h
    injection h with h
    subst h
    exact .inl rfl
  bits k := by
    unfold FKey.enc FKey.cells Mac6.cells
    simp [Instr.sameBits]

end Go.Proofs.Ytddfjnjhgeofmaa
