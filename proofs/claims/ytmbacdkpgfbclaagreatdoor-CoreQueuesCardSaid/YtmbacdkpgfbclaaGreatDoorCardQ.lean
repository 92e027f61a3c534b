/- CoreQueues: what the card rests on; conditions: none. -/
import Derived.Test.YtmbacdkpgfbclaaGreatDoorFacts
import Derived.Test.YtmbacdkpgfbclaaGreatDoorOpenS
import Derived.Test.YtmbacdkpgfbclaaGreatDoorQueuesLaw
import Derived.Test.YtmbacdkpgfbclaaGreatDoorPureRel
import Derived.OpenShut
import Derived.ShutString
namespace Go.Proofs.YtmbacdkpgfbclaaGreatDoor.coreQueues
open Go.ChangeShapes Go.WideShapes Go.ChangeAt Go.RowKit
open Go.ChangeMaps (open_string shut_string)
open Go.Proofs.YtmbacdkpgfbclaaGreatDoor
set_option linter.unusedVariables false

set_option maxRecDepth 100000 in
theorem lifted (os : Os) (started : os.Started) (H : Type) (enc : TypeId × Value → H) :
  ReturnsInHanded {} Tryz.checked os 4 .any (fun w args => (Rows.coreQueuesSpec.pre enc Tryz.prog Tryz.f4 Rows.coreQueuesRow.domain false w args ∧ laidMetH Tryz.prog Rows.coreQueuesRow.laid w) ∧ sizedMet enc Tryz.prog Tryz.f4 (OpenSpec.ofChange Rows.coreQueuesSpec) false w args)
   (Rows.coreQueuesSpec.post enc Tryz.prog Tryz.f4 false true false false) := by
 refine returnsInHanded_of_change_and (C := Tryz.checked) (X := fun w _ => laidMetH Tryz.prog Rows.coreQueuesRow.laid w) (fun _ _ _ hh h => h.of_heap hh) own started (by kernel_rfl) Tryz.func4
  (ChangeSpec.witness_shaped (enc := enc) (C := Tryz.checked) (os := os) (X := fun w _ => laidMetH Tryz.prog Rows.coreQueuesRow.laid w) false (World.laidAll Tryz.prog os Rows.coreQueuesRow.laid) #[.slice none 0 0, .int .i64 0] 8 (World.laidAll_os _ _ _)
   (World.shaped_of_ZipB (by kernel_rfl) (by kernel_rfl)) (by kernel_rfl) (by kernel_rfl) (by kernel_rfl) (by rw [MakeChecks.laidMetH_plain _ _ _ (by kernel_rfl)]; exact laidMet_laidAll _ (by kernel_rfl) (by kernel_rfl))) ?_
 intro W base args ds gs before hval0 hW hc hsz0 hL _; have hsz : (DataW.weightsEach Tryz.prog (Tryz.f4.params.toList ++ Rows.coreQueuesSpec.plain.varTypes Tryz.prog) (ds ++ gs)).all (· ≤ reachBytes) = true := hsz0; have hval : ∀ (j : Nat) t v, Tryz.f4.params[j]? = some t → args[j]? = some v → Value.okWide Tryz.prog W .any base t v := hval0; have hW' := hW; obtain ⟨p, q, hA0, hV, rfl, hfz, hnd⟩ := hW; have hA : DataW.TrodAll enc Tryz.prog W 0 (fun _ => true) true Tryz.f4.params.toList args.toList ds p := hA0; rw [Tryz.params4] at hA hval hsz; obtain ⟨v0, vs0, d0, ds0, p0, q0, hargs, rfl, rfl, h0, r0⟩ := trodAll_cons hA; obtain ⟨v1, vs1, d1, ds1, p1, q1, rfl, rfl, rfl, h1, r1⟩ := trodAll_cons r0; obtain ⟨rfl, rfl, rfl⟩ := trodAll_nil r1; obtain rfl : args = #[v0, v1] := by cases args; simp_all
 obtain ⟨rfl, rfl⟩ := trodVars_none hV; have h0k := h0; obtain ⟨A0, c0, vs0, rfl, VR0, SZ0, LN0, CP0⟩ := open_vals hsz (j := 0) rfl rfl (hval 0 22 v0 rfl rfl) h0; obtain ⟨a1, rfl, rfl, rfl, w1⟩ := open_int Tryz.underlying3 (hval 1 3 v1 rfl rfl) h1; clear hA0 hval0 hsz0 hsz; have gw := gw_of_laid hL; refine (CoreQueues_walk PXI.less_ltE (fun a b u ha hG => by
  obtain ⟨k, hk⟩ := (PXI.order_ev a b ha).rounds; exact PXI.relate_Order.calls k a.1 a.2.1 a.2.2 b.1 b.2.1 b.2.2 (ordV a b) u hk ⟨hG⟩) (fun v u hG => PXI.abacustop_plain.calls v.1 v.2.1 v.2.2 _ _ _ u rfl ⟨hG⟩) A0 c0 vs0 a1 W VR0 (fun i hi => Nat.le_trans (SZ0 i hi) (by decide)) (by omega) (PXI.GW.five gw) gw (PXI.abacustop_relates.calls 200 true W relates_true ⟨gw⟩)).mono fun e W' ⟨he, bel⟩ => ?_
 subst he; exact ⟨_, rfl, _, _, _, [], _, [], hW', trodAll_mk1 (shut_bool Tryz.underlying4 _), (trodAll_cons_mk (Below.trod whole_laidOut (by kernel_rfl) (of_decide_eq_true (by kernel_rfl)) h0k bel (trod_places h0k)) (trodAll_cons_mk (shut_int Tryz.underlying3 w1) trodAll_mk0)), rfl, bel.frame _, fun h => by cases h⟩
theorem f_wf : Rows.coreQueuesRow.wf (OpenSpec.ofChange Rows.coreQueuesSpec) = true := by kernel_rfl
theorem f_inPlace : (Rows.coreQueuesRow.inPlace == Tryz.prog.inPlace 4) = true := by kernel_rfl
theorem f_unfollowed : (Rows.coreQueuesRow.unfollowed == Tryz.prog.unfollowed 4) = true := by kernel_rfl
theorem f_recurses : (Rows.coreQueuesRow.recurses == Tryz.prog.recurses 4) = true := by kernel_rfl
theorem f_named : (Rows.coreQueuesRow.named == Tryz.prog.varsNamed 4) = true := by kernel_rfl
theorem f_plainKeys : (Rows.coreQueuesRow.plainKeys == Tryz.prog.plainKeys) = true := whole_plainKeys
theorem f_lifted : (Rows.coreQueuesRow.lifted == Tryz.prog.liftsFinal) = true := whole_lifted
theorem f_make : (Tryz.prog.make == some Rows.coreQueuesRow.make) = true := whole_make
set_option maxRecDepth 100000 in
theorem closed : joinedFacts Tryz.prog 4 Tryz.f4 Rows.coreQueuesSpec Rows.coreQueuesRow = true := by
 unfold joinedFacts; repeat' (with_reducible refine true_and' ?_ ?_)
 all_goals first
  | with_reducible exact f_wf | with_reducible exact whole_laidOut | with_reducible exact whole_mapsRowed | with_reducible exact whole_stops | with_reducible exact whole_knobs | with_reducible exact whole_heard | with_reducible exact f_plainKeys | with_reducible exact whole_enters | with_reducible exact f_lifted | with_reducible exact f_make
  | with_reducible exact f_inPlace | with_reducible exact f_unfollowed | with_reducible exact f_recurses | with_reducible exact f_named
  | kernel_rfl
theorem said : Rows.CoreQueuesSaid :=
 OpenClaim.holds_of_wide 4 Tryz.f4 rfl rfl rfl rfl rfl rfl rfl ⟨rfl, rfl, rfl, rfl, rfl⟩ rfl rfl rfl rfl rfl (by kernel_rfl) Tryz.func4 closed
  (of_decide_eq_true (by kernel_rfl)) (by unfold Func.isWrapper; first | (rw [if_pos (by decide +kernel)]; kernel_rfl) | (rw [if_neg (by decide +kernel)]; exact ⟨rfl, rfl⟩))
  (fun os started H enc _ => lifted os started H enc)
theorem plain (f : FuncId) (fn : Func) (hf : Tryz.pinned.checked.prog.funcNamed "abacus/abacustop.CoreQueues" = some f) (hfn : Tryz.pinned.checked.prog.funcs[f]? = some fn) :
  true = Tryz.pinned.checked.prog.looks [] ∧ ∀ (j : Nat) t, fn.params[j]? = some t → Tryz.pinned.checked.prog.wantsStandIn t = false := by
 obtain rfl : f = 4 := Option.some.inj ((show Tryz.prog.funcNamed "abacus/abacustop.CoreQueues" = some 4 by kernel_rfl).symm.trans hf) |>.symm; obtain rfl : fn = Tryz.f4 := (Option.some.inj (Tryz.func4.symm.trans hfn)).symm; refine ⟨by kernel_rfl, fun j t ht => ?_⟩; rw [Tryz.params4] at ht; have hm : t ∈ [22, 3] := by simpa using Array.mem_of_getElem? ht
 have hall : ([22, 3].all fun u => !Tryz.prog.wantsStandIn u) = true := by kernel_rfl
 exact (show Tryz.prog.wantsStandIn t = false by simpa using List.all_eq_true.1 hall t hm)
end Go.Proofs.YtmbacdkpgfbclaaGreatDoor.coreQueues
