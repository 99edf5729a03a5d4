/- each reason has a name of its own. -/
import Derived.Test.YtcjilkemfmhkgaaRows
import Derived.Test.YtcjilkemfmhkgaaRelayNames
import Derived.Test.YtcjilkemfmhkgaaSeat
namespace Go.Proofs.Ytcjilkemfmhkgaa.relayNames
open Go.ChangeShapes Go.WideShapes Go.ChangeAt Go.RowKit
set_option maxRecDepth 100000 in
theorem lifted (os : Os) (started : os.Started) (H : Type) (enc : TypeId × Value → H) :
    ReturnsInHanded {} Try.checked os 3 .any (Rows.relayNamesSpec.pre6 enc Try.prog Try.f3 Rows.relayNamesRow.domain false) (Rows.relayNamesSpec.post enc Try.prog Try.f3 false true false false) := by
  refine returnsInHanded_of_change (C := Try.checked) Seat.own started (by kernel_rfl) Try.func3
    (ChangeSpec.witness6 (enc := enc) (C := Try.checked) false ⟨#[], #[.int .i64 0], []⟩ 12 (by kernel_rfl) (by kernel_rfl) (by kernel_rfl) (by kernel_rfl)) ?_
  intro W base args ds gs before hval0 hW hcnd _
  have hval : ∀ (j : Nat) t v, Try.f3.params[j]? = some t → args[j]? = some v → Value.okWide Try.prog W .any base t v := hval0
  have hW' := hW
  obtain ⟨p, q, hA0, hV, rfl, hfz, hnd⟩ := hW
  have hA : DataW.TrodAll enc Try.prog W 0 (fun _ => true) true Try.f3.params.toList args.toList ds p := hA0
  have hp : Try.f3.params = #[3] := rfl
  rw [hp] at hA hval
  obtain ⟨v0, vs0, d0, ds0, p0, q0, hargs, rfl, rfl, h0, r0⟩ := trodAll_cons hA
  obtain ⟨rfl, rfl, rfl⟩ := trodAll_nil r0
  obtain rfl : args = #[v0] := by cases args; simp_all
  obtain ⟨rfl, rfl⟩ := trodVars_none hV
  have lt0 : ∀ x ∈ p0, x.block < W.heap.size := by obtain ⟨m, hm⟩ := h0; exact DataW.trod_lt m _ _ _ hm
  have hc := law_RelayNames v0 W.heap (Vc.Arg.of EE_ok (hval 0 3 v0 rfl rfl) h0)
  refine (hc.out W rfl).mono fun e W' ⟨v, he, hsm, hv, hk⟩ => ?_
  subst he
  subst hv
  have bel : Below W.heap.size W W' := ⟨hsm.os, hsm.tape, hsm.output, hk.size, fun k hk' => hk.old k hk' (fun x => x)⟩
  exact ⟨_, rfl, _, _, _, [], _, [], hW', trodAll_mk1 (shut_bool (t := 4) (by kernel_rfl) _), (trodAll_cons_mk (Below.trod Seat.laidOut (by kernel_rfl) (of_decide_eq_true (by kernel_rfl)) h0 bel lt0) trodAll_mk0), rfl, bel.frame _, fun h => by cases h⟩
theorem over : Rows.relayNamesRow.holds Try.pinned (OpenSpec.ofChange Rows.relayNamesSpec) :=
  OpenClaim.holds_of_wide 3 Try.f3 rfl rfl rfl rfl rfl rfl rfl ⟨rfl, rfl, rfl, rfl, rfl⟩ rfl rfl rfl rfl rfl (by kernel_rfl) Try.func3
    (Seat.joined_of (by kernel_rfl) Seat.laid Seat.rowed (by kernel_rfl) (by kernel_rfl) (by kernel_rfl) Seat.stops (by kernel_rfl) Seat.knobs (by kernel_rfl) (by kernel_rfl) (by kernel_rfl) (by kernel_rfl) (by kernel_rfl) (by kernel_rfl) (by kernel_rfl) (by kernel_rfl) (by kernel_rfl) (by kernel_rfl) (by kernel_rfl) (by kernel_rfl) (by kernel_rfl) (by kernel_rfl) (by kernel_rfl) Seat.heard Seat.may (Seat.beq_of Seat.final_ (by kernel_rfl)) (by rw [Seat.make_]; kernel_rfl) (by kernel_rfl) (by kernel_rfl) (by kernel_rfl) (by kernel_rfl))
    (of_decide_eq_true (by kernel_rfl)) (by unfold Func.isWrapper; first | (rw [if_pos (by decide +kernel)]; kernel_rfl) | (rw [if_neg (by decide +kernel)]; exact ⟨rfl, rfl⟩))
    (fun os started H enc _ => lifted os started H enc)
end Go.Proofs.Ytcjilkemfmhkgaa.relayNames
namespace Go.Proofs.Ytcjilkemfmhkgaa
/-- The given statement. -/
theorem relayNames_holds : Rows.RelayNamesSaid := relayNames.over
#print axioms relayNames_holds
end Go.Proofs.Ytcjilkemfmhkgaa
