/- PointNear: the card; conditions: none. -/
import Derived.Test.YtgbjojokjekmhaaGreatDoorOpenP
import Derived.Test.YtgbjojokjekmhaaGreatDoorNearK
import Derived.OpenShut
import Derived.ShutString
namespace Go.Proofs.YtgbjojokjekmhaaGreatDoor.pointNear
open Go.ChangeShapes Go.WideShapes Go.ChangeAt Go.RowKit
open Go.ChangeMaps (open_string shut_string)
open Go.Proofs.YtgbjojokjekmhaaGreatDoor
set_option linter.unusedVariables false

set_option maxRecDepth 100000 in
theorem lifted (os : Os) (started : os.Started) (H : Type) (enc : TypeId × Value → H) :
    ReturnsInHanded {} Tryz.checked os 7 .any (fun w args => (Rows.pointNearSpec.pre enc Tryz.prog Tryz.f7 Rows.pointNearRow.domain false w args ∧ laidMetH Tryz.prog Rows.pointNearRow.laid w) ∧ sizedMet enc Tryz.prog Tryz.f7 (OpenSpec.ofChange Rows.pointNearSpec) false w args)
      (Rows.pointNearSpec.post enc Tryz.prog Tryz.f7 false true false false) := by
  refine returnsInHanded_of_change_and (C := Tryz.checked) (X := fun w _ => laidMetH Tryz.prog Rows.pointNearRow.laid w) (fun _ _ _ hh h => h.of_heap hh) own started (by kernel_rfl) Tryz.func7
    (ChangeSpec.witness_shaped (enc := enc) (C := Tryz.checked) (os := os) (X := fun w _ => laidMetH Tryz.prog Rows.pointNearRow.laid w) false (World.laidAll Tryz.prog os Rows.pointNearRow.laid) #[.agg #[.int .u8 0, .int .i64 0, .int .i64 0, .int .i64 0], .int .u64 0] 8 (World.laidAll_os _ _ _)
      (World.shaped_of_ZipB (by kernel_rfl) (by kernel_rfl)) (by kernel_rfl) (by kernel_rfl) (by kernel_rfl) (by rw [MakeChecks.laidMetH_plain _ _ _ (by kernel_rfl)]; exact laidMet_laidAll _ (by kernel_rfl) (by kernel_rfl))) ?_
  intro W base args ds gs before hval0 hW hc hsz0 hL _
  have hsz : (DataW.weightsEach Tryz.prog (Tryz.f7.params.toList ++ Rows.pointNearSpec.plain.varTypes Tryz.prog) (ds ++ gs)).all (· ≤ reachBytes) = true := hsz0
  have hval : ∀ (j : Nat) t v, Tryz.f7.params[j]? = some t → args[j]? = some v → Value.okWide Tryz.prog W .any base t v := hval0
  have hW' := hW
  obtain ⟨p, q, hA0, hV, rfl, hfz, hnd⟩ := hW
  have hA : DataW.TrodAll enc Tryz.prog W 0 (fun _ => true) true Tryz.f7.params.toList args.toList ds p := hA0
  rw [Tryz.params7] at hA hval hsz
  obtain ⟨v0, vs0, d0, ds0, p0, q0, hargs, rfl, rfl, h0, r0⟩ := trodAll_cons hA
  obtain ⟨v1, vs1, d1, ds1, p1, q1, rfl, rfl, rfl, h1, r1⟩ := trodAll_cons r0
  obtain ⟨rfl, rfl, rfl⟩ := trodAll_nil r1
  obtain rfl : args = #[v0, v1] := by cases args; simp_all
  obtain ⟨rfl, rfl⟩ := trodVars_none hV
  obtain ⟨a0_0, a0_1, a0_2, a0_3, rfl, rfl, rfl, t0, x0, y0, z0⟩ := open_spec (hval 0 23 v0 rfl rfl) h0
  obtain ⟨a1, rfl, rfl, rfl, w1⟩ := open_int Tryz.underlying24 (hval 1 24 v1 rfl rfl) h1
  clear hA0 hval0 hsz0 hsz
  have b1 := bounds_u64 w1
  refine (Num.PointNear_true a0_0 a0_1 a0_2 a0_3 a1 b1.1 (by omega) W ⟨gw_of_laid hL⟩).mono fun e W' ⟨he, bel⟩ => ?_
  subst he
  exact ⟨_, rfl, _, _, _, [], _, [], hW', trodAll_mk1 (shut_bool Tryz.underlying4 _), (trodAll_cons_mk (shut_spec t0 x0 y0 z0) (trodAll_cons_mk (shut_int Tryz.underlying24 w1) trodAll_mk0)), rfl, bel.frame _, fun h => by cases h⟩
theorem f_wf : Rows.pointNearRow.wf (OpenSpec.ofChange Rows.pointNearSpec) = true := by kernel_rfl
theorem f_inPlace : (Rows.pointNearRow.inPlace == Tryz.prog.inPlace 7) = true := by kernel_rfl
theorem f_unfollowed : (Rows.pointNearRow.unfollowed == Tryz.prog.unfollowed 7) = true := by kernel_rfl
theorem f_recurses : (Rows.pointNearRow.recurses == Tryz.prog.recurses 7) = true := by kernel_rfl
theorem f_named : (Rows.pointNearRow.named == Tryz.prog.varsNamed 7) = true := by kernel_rfl
theorem f_plainKeys : (Rows.pointNearRow.plainKeys == Tryz.prog.plainKeys) = true := whole_plainKeys
theorem f_lifted : (Rows.pointNearRow.lifted == Tryz.prog.liftsFinal) = true := whole_lifted
theorem f_make : (Tryz.prog.make == some Rows.pointNearRow.make) = true := whole_make
set_option maxRecDepth 100000 in
theorem closed : joinedFacts Tryz.prog 7 Tryz.f7 Rows.pointNearSpec Rows.pointNearRow = true := by
  unfold joinedFacts
  repeat' (with_reducible refine true_and' ?_ ?_)
  all_goals first
    | with_reducible exact f_wf | with_reducible exact whole_laidOut | with_reducible exact whole_mapsRowed | with_reducible exact whole_stops | with_reducible exact whole_knobs | with_reducible exact whole_heard | with_reducible exact f_plainKeys | with_reducible exact whole_enters | with_reducible exact f_lifted | with_reducible exact f_make
    | with_reducible exact f_inPlace | with_reducible exact f_unfollowed | with_reducible exact f_recurses | with_reducible exact f_named
    | kernel_rfl
theorem said : Rows.PointNearSaid :=
  OpenClaim.holds_of_wide 7 Tryz.f7 rfl rfl rfl rfl rfl rfl rfl ⟨rfl, rfl, rfl, rfl, rfl⟩ rfl rfl rfl rfl rfl (by kernel_rfl) Tryz.func7 closed
    (of_decide_eq_true (by kernel_rfl)) (by unfold Func.isWrapper; first | (rw [if_pos (by decide +kernel)]; kernel_rfl) | (rw [if_neg (by decide +kernel)]; exact ⟨rfl, rfl⟩))
    (fun os started H enc _ => lifted os started H enc)
theorem plain (f : FuncId) (fn : Func) (hf : Tryz.pinned.checked.prog.funcNamed "abacus/abacuslaw15.PointNear" = some f) (hfn : Tryz.pinned.checked.prog.funcs[f]? = some fn) :
    true = Tryz.pinned.checked.prog.looks [] ∧ ∀ (j : Nat) t, fn.params[j]? = some t → Tryz.pinned.checked.prog.wantsStandIn t = false := by
  obtain rfl : f = 7 := Option.some.inj ((show Tryz.prog.funcNamed "abacus/abacuslaw15.PointNear" = some 7 by kernel_rfl).symm.trans hf) |>.symm
  obtain rfl : fn = Tryz.f7 := (Option.some.inj (Tryz.func7.symm.trans hfn)).symm
  refine ⟨by kernel_rfl, fun j t ht => ?_⟩
  rw [Tryz.params7] at ht
  have hm : t ∈ [23, 24] := by simpa using Array.mem_of_getElem? ht
  have hall : ([23, 24].all fun u => !Tryz.prog.wantsStandIn u) = true := by kernel_rfl
  exact (show Tryz.prog.wantsStandIn t = false by simpa using List.all_eq_true.1 hall t hm)
end Go.Proofs.YtgbjojokjekmhaaGreatDoor.pointNear
namespace Go.Proofs.YtgbjojokjekmhaaGreatDoor
/-- The card. -/
theorem pointNear_card : Rows.PointNearCardSaid :=
  Claim7.holds_tied_plain_at .later [] _ _ _ _ pointNear.said (fun _ h => by cases h) (by kernel_rfl) (fun _ h => by cases h) pointNear_row_tie rfl ⟨rfl, rfl⟩ (by kernel_rfl) rfl pointNear.plain (by kernel_rfl)
#print axioms pointNear_card
end Go.Proofs.YtgbjojokjekmhaaGreatDoor
