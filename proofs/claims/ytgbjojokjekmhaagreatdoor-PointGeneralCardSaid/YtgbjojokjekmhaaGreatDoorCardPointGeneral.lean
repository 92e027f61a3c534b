/- PointGeneral: the card; conditions: none. -/
import Derived.Test.YtgbjojokjekmhaaGreatDoorOpenP
import Derived.Test.YtgbjojokjekmhaaGreatDoorPXGy
import Derived.Test.YtgbjojokjekmhaaGreatDoorGenL
import Derived.OpenShut
import Derived.ShutString
namespace Go.Proofs.YtgbjojokjekmhaaGreatDoor.pointGeneral
open Go.ChangeShapes Go.WideShapes Go.ChangeAt Go.RowKit
open Go.ChangeMaps (open_string shut_string)
open Go.Proofs.YtgbjojokjekmhaaGreatDoor
set_option linter.unusedVariables false

set_option maxRecDepth 100000 in
theorem lifted (os : Os) (started : os.Started) (H : Type) (enc : TypeId × Value → H) :
    ReturnsInHanded {} Tryz.checked os 6 .any (fun w args => (Rows.pointGeneralSpec.pre enc Tryz.prog Tryz.f6 Rows.pointGeneralRow.domain false w args ∧ laidMetH Tryz.prog Rows.pointGeneralRow.laid w) ∧ sizedMet enc Tryz.prog Tryz.f6 (OpenSpec.ofChange Rows.pointGeneralSpec) false w args)
      (Rows.pointGeneralSpec.post enc Tryz.prog Tryz.f6 false true false false) := by
  refine returnsInHanded_of_change_and (C := Tryz.checked) (X := fun w _ => laidMetH Tryz.prog Rows.pointGeneralRow.laid w) (fun _ _ _ hh h => h.of_heap hh) own started (by kernel_rfl) Tryz.func6
    (ChangeSpec.witness_shaped (enc := enc) (C := Tryz.checked) (os := os) (X := fun w _ => laidMetH Tryz.prog Rows.pointGeneralRow.laid w) false (World.laidAll Tryz.prog os Rows.pointGeneralRow.laid) #[.bool false, .bool false, .int .i64 0, .int .u64 0] 8 (World.laidAll_os _ _ _)
      (World.shaped_of_ZipB (by kernel_rfl) (by kernel_rfl)) (by kernel_rfl) (by kernel_rfl) (by kernel_rfl) (by rw [MakeChecks.laidMetH_plain _ _ _ (by kernel_rfl)]; exact laidMet_laidAll _ (by kernel_rfl) (by kernel_rfl))) ?_
  intro W base args ds gs before hval0 hW hc hsz0 hL _
  have hsz : (DataW.weightsEach Tryz.prog (Tryz.f6.params.toList ++ Rows.pointGeneralSpec.plain.varTypes Tryz.prog) (ds ++ gs)).all (· ≤ reachBytes) = true := hsz0
  have hval : ∀ (j : Nat) t v, Tryz.f6.params[j]? = some t → args[j]? = some v → Value.okWide Tryz.prog W .any base t v := hval0
  have hW' := hW
  obtain ⟨p, q, hA0, hV, rfl, hfz, hnd⟩ := hW
  have hA : DataW.TrodAll enc Tryz.prog W 0 (fun _ => true) true Tryz.f6.params.toList args.toList ds p := hA0
  rw [Tryz.params6] at hA hval hsz
  obtain ⟨v0, vs0, d0, ds0, p0, q0, hargs, rfl, rfl, h0, r0⟩ := trodAll_cons hA
  obtain ⟨v1, vs1, d1, ds1, p1, q1, rfl, rfl, rfl, h1, r1⟩ := trodAll_cons r0
  obtain ⟨v2, vs2, d2, ds2, p2, q2, rfl, rfl, rfl, h2, r2⟩ := trodAll_cons r1
  obtain ⟨v3, vs3, d3, ds3, p3, q3, rfl, rfl, rfl, h3, r3⟩ := trodAll_cons r2
  obtain ⟨rfl, rfl, rfl⟩ := trodAll_nil r3
  obtain rfl : args = #[v0, v1, v2, v3] := by cases args; simp_all
  obtain ⟨rfl, rfl⟩ := trodVars_none hV
  obtain ⟨a0, rfl, rfl, rfl⟩ := open_bool Tryz.underlying4 (hval 0 4 v0 rfl rfl) h0
  obtain ⟨a1, rfl, rfl, rfl⟩ := open_bool Tryz.underlying4 (hval 1 4 v1 rfl rfl) h1
  obtain ⟨a2, rfl, rfl, rfl, w2⟩ := open_int Tryz.underlying3 (hval 2 3 v2 rfl rfl) h2
  obtain ⟨a3, rfl, rfl, rfl, w3⟩ := open_int Tryz.underlying24 (hval 3 24 v3 rfl rfl) h3
  clear hA0 hval0 hsz0 hsz
  have b1 := bounds_u64 w3
  obtain ⟨k, hf⟩ := Go.Proofs.YtgbjojokjekmhaaGreatDoorW.PrintWords.Ev.rounds (Num.PointGeneral_tot a0 a1 a2 a3 b1.1 (by omega))
  refine (PXG.abacuslaw15_PointGeneral.calls k a0 a1 a2 a3 true W hf (HG := ⟨gw_of_laid hL⟩)).mono fun e W' ⟨he, bel⟩ => ?_
  subst he
  exact ⟨_, rfl, _, _, _, [], _, [], hW', trodAll_mk1 (shut_bool Tryz.underlying4 _), (trodAll_cons_mk (shut_bool Tryz.underlying4 _) (trodAll_cons_mk (shut_bool Tryz.underlying4 _) (trodAll_cons_mk (shut_int Tryz.underlying3 w2) (trodAll_cons_mk (shut_int Tryz.underlying24 w3) trodAll_mk0)))), rfl, bel.frame _, fun h => by cases h⟩
theorem f_wf : Rows.pointGeneralRow.wf (OpenSpec.ofChange Rows.pointGeneralSpec) = true := by kernel_rfl
theorem f_inPlace : (Rows.pointGeneralRow.inPlace == Tryz.prog.inPlace 6) = true := by kernel_rfl
theorem f_unfollowed : (Rows.pointGeneralRow.unfollowed == Tryz.prog.unfollowed 6) = true := by kernel_rfl
theorem f_recurses : (Rows.pointGeneralRow.recurses == Tryz.prog.recurses 6) = true := by kernel_rfl
theorem f_named : (Rows.pointGeneralRow.named == Tryz.prog.varsNamed 6) = true := by kernel_rfl
theorem f_plainKeys : (Rows.pointGeneralRow.plainKeys == Tryz.prog.plainKeys) = true := whole_plainKeys
theorem f_lifted : (Rows.pointGeneralRow.lifted == Tryz.prog.liftsFinal) = true := whole_lifted
theorem f_make : (Tryz.prog.make == some Rows.pointGeneralRow.make) = true := whole_make
set_option maxRecDepth 100000 in
theorem closed : joinedFacts Tryz.prog 6 Tryz.f6 Rows.pointGeneralSpec Rows.pointGeneralRow = true := by
  unfold joinedFacts
  repeat' (with_reducible refine true_and' ?_ ?_)
  all_goals first
    | with_reducible exact f_wf | with_reducible exact whole_laidOut | with_reducible exact whole_mapsRowed | with_reducible exact whole_stops | with_reducible exact whole_knobs | with_reducible exact whole_heard | with_reducible exact f_plainKeys | with_reducible exact whole_enters | with_reducible exact f_lifted | with_reducible exact f_make
    | with_reducible exact f_inPlace | with_reducible exact f_unfollowed | with_reducible exact f_recurses | with_reducible exact f_named
    | kernel_rfl
theorem said : Rows.PointGeneralSaid :=
  OpenClaim.holds_of_wide 6 Tryz.f6 rfl rfl rfl rfl rfl rfl rfl ⟨rfl, rfl, rfl, rfl, rfl⟩ rfl rfl rfl rfl rfl (by kernel_rfl) Tryz.func6 closed
    (of_decide_eq_true (by kernel_rfl)) (by unfold Func.isWrapper; first | (rw [if_pos (by decide +kernel)]; kernel_rfl) | (rw [if_neg (by decide +kernel)]; exact ⟨rfl, rfl⟩))
    (fun os started H enc _ => lifted os started H enc)
theorem plain (f : FuncId) (fn : Func) (hf : Tryz.pinned.checked.prog.funcNamed "abacus/abacuslaw15.PointGeneral" = some f) (hfn : Tryz.pinned.checked.prog.funcs[f]? = some fn) :
    true = Tryz.pinned.checked.prog.looks [] ∧ ∀ (j : Nat) t, fn.params[j]? = some t → Tryz.pinned.checked.prog.wantsStandIn t = false := by
  obtain rfl : f = 6 := Option.some.inj ((show Tryz.prog.funcNamed "abacus/abacuslaw15.PointGeneral" = some 6 by kernel_rfl).symm.trans hf) |>.symm
  obtain rfl : fn = Tryz.f6 := (Option.some.inj (Tryz.func6.symm.trans hfn)).symm
  refine ⟨by kernel_rfl, fun j t ht => ?_⟩
  rw [Tryz.params6] at ht
  have hm : t ∈ [4, 4, 3, 24] := by simpa using Array.mem_of_getElem? ht
  have hall : ([4, 4, 3, 24].all fun u => !Tryz.prog.wantsStandIn u) = true := by kernel_rfl
  exact (show Tryz.prog.wantsStandIn t = false by simpa using List.all_eq_true.1 hall t hm)
end Go.Proofs.YtgbjojokjekmhaaGreatDoor.pointGeneral
namespace Go.Proofs.YtgbjojokjekmhaaGreatDoor
/-- The card. -/
theorem pointGeneral_card : Rows.PointGeneralCardSaid :=
  Claim7.holds_tied_plain_at .later [] _ _ _ _ pointGeneral.said (fun _ h => by cases h) (by kernel_rfl) (fun _ h => by cases h) pointGeneral_row_tie rfl ⟨rfl, rfl⟩ (by kernel_rfl) rfl pointGeneral.plain (by kernel_rfl)
#print axioms pointGeneral_card
end Go.Proofs.YtgbjojokjekmhaaGreatDoor
