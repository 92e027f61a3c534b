/- RelateLeast: the card; conditions: none. -/
import Derived.Test.YtoanmnhkhookfaaGreatDoorFacts
import Derived.Test.YtoanmnhkhookfaaGreatDoorOpenO
import Derived.Test.YtoanmnhkhookfaaGreatDoorLeastLaw
import Derived.Test.YtoanmnhkhookfaaGreatDoorPureAwake
import Derived.OpenShut
import Derived.ShutString
namespace Go.Proofs.YtoanmnhkhookfaaGreatDoor.relateLeast
open Go.ChangeShapes Go.WideShapes Go.ChangeAt Go.RowKit
open Go.ChangeMaps (open_string shut_string)
open Go.Proofs.YtoanmnhkhookfaaGreatDoor
set_option linter.unusedVariables false

set_option maxRecDepth 100000 in
theorem lifted (os : Os) (started : os.Started) (H : Type) (enc : TypeId × Value → H) :
    ReturnsInHanded {} Tryz.checked os 6 .any (fun w args => (Rows.relateLeastSpec.pre enc Tryz.prog Tryz.f6 Rows.relateLeastRow.domain false w args ∧ laidMetH Tryz.prog Rows.relateLeastRow.laid w) ∧ sizedMet enc Tryz.prog Tryz.f6 (OpenSpec.ofChange Rows.relateLeastSpec) false w args)
      (Rows.relateLeastSpec.post enc Tryz.prog Tryz.f6 false true false false) := by
  refine returnsInHanded_of_change_and (C := Tryz.checked) (X := fun w _ => laidMetH Tryz.prog Rows.relateLeastRow.laid w) (fun _ _ _ hh h => h.of_heap hh) own started (by kernel_rfl) Tryz.func6
    (ChangeSpec.witness_shaped (enc := enc) (C := Tryz.checked) (os := os) (X := fun w _ => laidMetH Tryz.prog Rows.relateLeastRow.laid w) false (World.laidAll Tryz.prog os Rows.relateLeastRow.laid) #[.slice none 0 0] 8 (World.laidAll_os _ _ _)
      (World.shaped_of_ZipB (by kernel_rfl) (by kernel_rfl)) (by kernel_rfl) (by kernel_rfl) (by kernel_rfl) (by rw [MakeChecks.laidMetH_plain _ _ _ (by kernel_rfl)]; exact laidMet_laidAll _ (by kernel_rfl) (by kernel_rfl))) ?_
  intro W base args ds gs before hval0 hW hc hsz0 hL _
  have hsz : (DataW.weightsEach Tryz.prog (Tryz.f6.params.toList ++ Rows.relateLeastSpec.plain.varTypes Tryz.prog) (ds ++ gs)).all (· ≤ reachBytes) = true := hsz0
  have hval : ∀ (j : Nat) t v, Tryz.f6.params[j]? = some t → args[j]? = some v → Value.okWide Tryz.prog W .any base t v := hval0
  have hW' := hW
  obtain ⟨p, q, hA0, hV, rfl, hfz, hnd⟩ := hW
  have hA : DataW.TrodAll enc Tryz.prog W 0 (fun _ => true) true Tryz.f6.params.toList args.toList ds p := hA0
  rw [Tryz.params6] at hA hval hsz
  obtain ⟨v0, vs0, d0, ds0, p0, q0, hargs, rfl, rfl, h0, r0⟩ := trodAll_cons hA
  obtain ⟨rfl, rfl, rfl⟩ := trodAll_nil r0
  obtain rfl : args = #[v0] := by cases args; simp_all
  obtain ⟨rfl, rfl⟩ := trodVars_none hV
  have h0k := h0
  obtain ⟨A0, c0, os0, rfl, OR0, OS0, LN0⟩ := open_ops hsz (j := 0) rfl rfl (hval 0 43 v0 rfl rfl) h0
  clear hA0 hval0 hsz0 hsz
  have gw := gw_of_laid hL
  obtain ⟨k, hk⟩ := Pure.awake_ev.rounds
  refine (RelateLeast_walk PXRelateTexts.less_ltE (fun a b u ha hG => by
    obtain ⟨k, hk⟩ := (PXRelateTexts.order_ev a b ha).rounds
    exact PXRelateTexts.relate_Order.calls k a.1 a.2.1 a.2.2 b.1 b.2.1 b.2.2 (ordV a b) u hk ⟨hG⟩) A0 c0 os0 W OR0 OS0 (by omega) (PXRelateTexts.GW.five gw) gw (PXRelateTexts.abacuslaw18_awake.calls k true W hk ⟨gw⟩)).mono fun e W' ⟨he, bel⟩ => ?_
  subst he
  exact ⟨_, rfl, _, _, _, [], _, [], hW', trodAll_mk1 (shut_bool Tryz.underlying4 _), (trodAll_cons_mk (Below.trod whole_laidOut (by kernel_rfl) (of_decide_eq_true (by kernel_rfl)) h0k bel (trod_places h0k)) trodAll_mk0), rfl, bel.frame _, fun h => by cases h⟩
theorem f_wf : Rows.relateLeastRow.wf (OpenSpec.ofChange Rows.relateLeastSpec) = true := by kernel_rfl
theorem f_inPlace : (Rows.relateLeastRow.inPlace == Tryz.prog.inPlace 6) = true := by kernel_rfl
theorem f_unfollowed : (Rows.relateLeastRow.unfollowed == Tryz.prog.unfollowed 6) = true := by kernel_rfl
theorem f_recurses : (Rows.relateLeastRow.recurses == Tryz.prog.recurses 6) = true := by kernel_rfl
theorem f_named : (Rows.relateLeastRow.named == Tryz.prog.varsNamed 6) = true := by kernel_rfl
theorem f_plainKeys : (Rows.relateLeastRow.plainKeys == Tryz.prog.plainKeys) = true := whole_plainKeys
theorem f_lifted : (Rows.relateLeastRow.lifted == Tryz.prog.liftsFinal) = true := whole_lifted
theorem f_make : (Tryz.prog.make == some Rows.relateLeastRow.make) = true := whole_make
set_option maxRecDepth 100000 in
theorem closed : joinedFacts Tryz.prog 6 Tryz.f6 Rows.relateLeastSpec Rows.relateLeastRow = true := by
  unfold joinedFacts
  repeat' (with_reducible refine true_and' ?_ ?_)
  all_goals first
    | with_reducible exact f_wf | with_reducible exact whole_laidOut | with_reducible exact whole_mapsRowed | with_reducible exact whole_stops | with_reducible exact whole_knobs | with_reducible exact whole_heard | with_reducible exact f_plainKeys | with_reducible exact whole_enters | with_reducible exact f_lifted | with_reducible exact f_make
    | with_reducible exact f_inPlace | with_reducible exact f_unfollowed | with_reducible exact f_recurses | with_reducible exact f_named
    | kernel_rfl
theorem said : Rows.RelateLeastSaid :=
  OpenClaim.holds_of_wide 6 Tryz.f6 rfl rfl rfl rfl rfl rfl rfl ⟨rfl, rfl, rfl, rfl, rfl⟩ rfl rfl rfl rfl rfl (by kernel_rfl) Tryz.func6 closed
    (of_decide_eq_true (by kernel_rfl)) (by unfold Func.isWrapper; first | (rw [if_pos (by decide +kernel)]; kernel_rfl) | (rw [if_neg (by decide +kernel)]; exact ⟨rfl, rfl⟩))
    (fun os started H enc _ => lifted os started H enc)
theorem plain (f : FuncId) (fn : Func) (hf : Tryz.pinned.checked.prog.funcNamed "abacus/abacuslaw18.RelateLeast" = some f) (hfn : Tryz.pinned.checked.prog.funcs[f]? = some fn) :
    true = Tryz.pinned.checked.prog.looks [] ∧ ∀ (j : Nat) t, fn.params[j]? = some t → Tryz.pinned.checked.prog.wantsStandIn t = false := by
  obtain rfl : f = 6 := Option.some.inj ((show Tryz.prog.funcNamed "abacus/abacuslaw18.RelateLeast" = some 6 by kernel_rfl).symm.trans hf) |>.symm
  obtain rfl : fn = Tryz.f6 := (Option.some.inj (Tryz.func6.symm.trans hfn)).symm
  refine ⟨by kernel_rfl, fun j t ht => ?_⟩
  rw [Tryz.params6] at ht
  have hm : t ∈ [43] := by simpa using Array.mem_of_getElem? ht
  have hall : ([43].all fun u => !Tryz.prog.wantsStandIn u) = true := by kernel_rfl
  exact (show Tryz.prog.wantsStandIn t = false by simpa using List.all_eq_true.1 hall t hm)
end Go.Proofs.YtoanmnhkhookfaaGreatDoor.relateLeast
namespace Go.Proofs.YtoanmnhkhookfaaGreatDoor
/-- The card. -/
theorem relateLeast_card : Rows.RelateLeastCardSaid :=
  Claim7.holds_tied_plain_at .later [] _ _ _ _ relateLeast.said (fun _ h => by cases h) (by kernel_rfl) (fun _ h => by cases h) relateLeast_row_tie rfl ⟨rfl, rfl⟩ (by kernel_rfl) rfl relateLeast.plain (by kernel_rfl)
#print axioms relateLeast_card
end Go.Proofs.YtoanmnhkhookfaaGreatDoor
