/- RelateNothing: the card; conditions: none. -/
import Derived.Test.YtoanmnhkhookfaaGreatDoorFacts
import Derived.Test.YtoanmnhkhookfaaGreatDoorOpenS
import Derived.Test.YtoanmnhkhookfaaGreatDoorNothingLaw
import Derived.Test.YtoanmnhkhookfaaGreatDoorPureAwake
import Derived.OpenShut
import Derived.ShutString
namespace Go.Proofs.YtoanmnhkhookfaaGreatDoor.relateNothing
open Go.ChangeShapes Go.WideShapes Go.ChangeAt Go.RowKit
open Go.ChangeMaps (open_string shut_string)
open Go.Proofs.YtoanmnhkhookfaaGreatDoor
set_option linter.unusedVariables false

set_option maxRecDepth 100000 in
theorem lifted (os : Os) (started : os.Started) (H : Type) (enc : TypeId × Value → H) :
    ReturnsInHanded {} Tryz.checked os 8 .any (fun w args => (Rows.relateNothingSpec.pre enc Tryz.prog Tryz.f8 Rows.relateNothingRow.domain false w args ∧ laidMetH Tryz.prog Rows.relateNothingRow.laid w) ∧ sizedMet enc Tryz.prog Tryz.f8 (OpenSpec.ofChange Rows.relateNothingSpec) false w args)
      (Rows.relateNothingSpec.post enc Tryz.prog Tryz.f8 false true false false) := by
  refine returnsInHanded_of_change_and (C := Tryz.checked) (X := fun w _ => laidMetH Tryz.prog Rows.relateNothingRow.laid w) (fun _ _ _ hh h => h.of_heap hh) own started (by kernel_rfl) Tryz.func8
    (ChangeSpec.witness_shaped (enc := enc) (C := Tryz.checked) (os := os) (X := fun w _ => laidMetH Tryz.prog Rows.relateNothingRow.laid w) false (World.laidAll Tryz.prog os Rows.relateNothingRow.laid) #[.slice none 0 0] 8 (World.laidAll_os _ _ _)
      (World.shaped_of_ZipB (by kernel_rfl) (by kernel_rfl)) (by kernel_rfl) (by kernel_rfl) (by kernel_rfl) (by rw [MakeChecks.laidMetH_plain _ _ _ (by kernel_rfl)]; exact laidMet_laidAll _ (by kernel_rfl) (by kernel_rfl))) ?_
  intro W base args ds gs before hval0 hW hc hsz0 hL _
  have hsz : (DataW.weightsEach Tryz.prog (Tryz.f8.params.toList ++ Rows.relateNothingSpec.plain.varTypes Tryz.prog) (ds ++ gs)).all (· ≤ reachBytes) = true := hsz0
  have hval : ∀ (j : Nat) t v, Tryz.f8.params[j]? = some t → args[j]? = some v → Value.okWide Tryz.prog W .any base t v := hval0
  have hW' := hW
  obtain ⟨p, q, hA0, hV, rfl, hfz, hnd⟩ := hW
  have hA : DataW.TrodAll enc Tryz.prog W 0 (fun _ => true) true Tryz.f8.params.toList args.toList ds p := hA0
  rw [Tryz.params8] at hA hval hsz
  obtain ⟨v0, vs0, d0, ds0, p0, q0, hargs, rfl, rfl, h0, r0⟩ := trodAll_cons hA
  obtain ⟨rfl, rfl, rfl⟩ := trodAll_nil r0
  obtain rfl : args = #[v0] := by cases args; simp_all
  obtain ⟨rfl, rfl⟩ := trodVars_none hV
  have h0k := h0
  obtain ⟨A0, c0, vs0, rfl, VR0, SZ0, LN0⟩ := open_vals hsz (j := 0) rfl rfl (hval 0 36 v0 rfl rfl) h0
  clear hA0 hval0 hsz0 hsz
  have gw := gw_of_laid hL
  obtain ⟨k, hk⟩ := Pure.awake_ev.rounds
  refine (RelateNothing_walk ltE PXRelateTexts.less_ltE A0 c0 vs0 W VR0 (fun i hi => Nat.le_trans (SZ0 i hi) (by decide)) (by omega) (PXRelateTexts.GW.five gw) gw (PXRelateTexts.abacuslaw18_awake.calls k true W hk ⟨gw⟩)).mono fun e W' ⟨he, bel⟩ => ?_
  subst he
  exact ⟨_, rfl, _, _, _, [], _, [], hW', trodAll_mk1 (shut_bool Tryz.underlying4 _), (trodAll_cons_mk (Below.trod whole_laidOut (by kernel_rfl) (of_decide_eq_true (by kernel_rfl)) h0k bel (trod_places h0k)) trodAll_mk0), rfl, bel.frame _, fun h => by cases h⟩
theorem f_wf : Rows.relateNothingRow.wf (OpenSpec.ofChange Rows.relateNothingSpec) = true := by kernel_rfl
theorem f_inPlace : (Rows.relateNothingRow.inPlace == Tryz.prog.inPlace 8) = true := by kernel_rfl
theorem f_unfollowed : (Rows.relateNothingRow.unfollowed == Tryz.prog.unfollowed 8) = true := by kernel_rfl
theorem f_recurses : (Rows.relateNothingRow.recurses == Tryz.prog.recurses 8) = true := by kernel_rfl
theorem f_named : (Rows.relateNothingRow.named == Tryz.prog.varsNamed 8) = true := by kernel_rfl
theorem f_plainKeys : (Rows.relateNothingRow.plainKeys == Tryz.prog.plainKeys) = true := whole_plainKeys
theorem f_lifted : (Rows.relateNothingRow.lifted == Tryz.prog.liftsFinal) = true := whole_lifted
theorem f_make : (Tryz.prog.make == some Rows.relateNothingRow.make) = true := whole_make
set_option maxRecDepth 100000 in
theorem closed : joinedFacts Tryz.prog 8 Tryz.f8 Rows.relateNothingSpec Rows.relateNothingRow = true := by
  unfold joinedFacts
  repeat' (with_reducible refine true_and' ?_ ?_)
  all_goals first
    | with_reducible exact f_wf | with_reducible exact whole_laidOut | with_reducible exact whole_mapsRowed | with_reducible exact whole_stops | with_reducible exact whole_knobs | with_reducible exact whole_heard | with_reducible exact f_plainKeys | with_reducible exact whole_enters | with_reducible exact f_lifted | with_reducible exact f_make
    | with_reducible exact f_inPlace | with_reducible exact f_unfollowed | with_reducible exact f_recurses | with_reducible exact f_named
    | kernel_rfl
theorem said : Rows.RelateNothingSaid :=
  OpenClaim.holds_of_wide 8 Tryz.f8 rfl rfl rfl rfl rfl rfl rfl ⟨rfl, rfl, rfl, rfl, rfl⟩ rfl rfl rfl rfl rfl (by kernel_rfl) Tryz.func8 closed
    (of_decide_eq_true (by kernel_rfl)) (by unfold Func.isWrapper; first | (rw [if_pos (by decide +kernel)]; kernel_rfl) | (rw [if_neg (by decide +kernel)]; exact ⟨rfl, rfl⟩))
    (fun os started H enc _ => lifted os started H enc)
theorem plain (f : FuncId) (fn : Func) (hf : Tryz.pinned.checked.prog.funcNamed "abacus/abacuslaw18.RelateNothing" = some f) (hfn : Tryz.pinned.checked.prog.funcs[f]? = some fn) :
    true = Tryz.pinned.checked.prog.looks [] ∧ ∀ (j : Nat) t, fn.params[j]? = some t → Tryz.pinned.checked.prog.wantsStandIn t = false := by
  obtain rfl : f = 8 := Option.some.inj ((show Tryz.prog.funcNamed "abacus/abacuslaw18.RelateNothing" = some 8 by kernel_rfl).symm.trans hf) |>.symm
  obtain rfl : fn = Tryz.f8 := (Option.some.inj (Tryz.func8.symm.trans hfn)).symm
  refine ⟨by kernel_rfl, fun j t ht => ?_⟩
  rw [Tryz.params8] at ht
  have hm : t ∈ [36] := by simpa using Array.mem_of_getElem? ht
  have hall : ([36].all fun u => !Tryz.prog.wantsStandIn u) = true := by kernel_rfl
  exact (show Tryz.prog.wantsStandIn t = false by simpa using List.all_eq_true.1 hall t hm)
end Go.Proofs.YtoanmnhkhookfaaGreatDoor.relateNothing
namespace Go.Proofs.YtoanmnhkhookfaaGreatDoor
/-- The card. -/
theorem relateNothing_card : Rows.RelateNothingCardSaid :=
  Claim7.holds_tied_plain_at .later [] _ _ _ _ relateNothing.said (fun _ h => by cases h) (by kernel_rfl) (fun _ h => by cases h) relateNothing_row_tie rfl ⟨rfl, rfl⟩ (by kernel_rfl) rfl relateNothing.plain (by kernel_rfl)
#print axioms relateNothing_card
end Go.Proofs.YtoanmnhkhookfaaGreatDoor
