/- RelateTotal: the card; conditions: none. -/
import Derived.Test.YtoanmnhkhookfaaGreatDoorFacts
import Derived.Test.YtoanmnhkhookfaaGreatDoorOpenV
import Derived.Test.YtoanmnhkhookfaaGreatDoorPXRelateTotaly
import Derived.Test.YtoanmnhkhookfaaGreatDoorPureRelateTotal
import Derived.OpenShut
import Derived.ShutString
namespace Go.Proofs.YtoanmnhkhookfaaGreatDoor.relateTotal
open Go.ChangeShapes Go.WideShapes Go.ChangeAt Go.RowKit
open Go.ChangeMaps (open_string shut_string)
open Go.Proofs.YtoanmnhkhookfaaGreatDoor
set_option linter.unusedVariables false

set_option maxRecDepth 100000 in
theorem lifted (os : Os) (started : os.Started) (H : Type) (enc : TypeId × Value → H) :
    ReturnsInHanded {} Tryz.checked os 4 .any (fun w args => (Rows.relateTotalSpec.pre enc Tryz.prog Tryz.f4 Rows.relateTotalRow.domain false w args ∧ laidMetH Tryz.prog Rows.relateTotalRow.laid w) ∧ sizedMet enc Tryz.prog Tryz.f4 (OpenSpec.ofChange Rows.relateTotalSpec) false w args)
      (Rows.relateTotalSpec.post enc Tryz.prog Tryz.f4 false true false false) := by
  refine returnsInHanded_of_change_and (C := Tryz.checked) (X := fun w _ => laidMetH Tryz.prog Rows.relateTotalRow.laid w) (fun _ _ _ hh h => h.of_heap hh) own started (by kernel_rfl) Tryz.func4
    (ChangeSpec.witness_shaped (enc := enc) (C := Tryz.checked) (os := os) (X := fun w _ => laidMetH Tryz.prog Rows.relateTotalRow.laid w) false (World.laidAll Tryz.prog os Rows.relateTotalRow.laid) #[.agg #[.int .i64 0, .int .u64 0, .string .empty], .agg #[.int .i64 0, .int .u64 0, .string .empty], .agg #[.int .i64 0, .int .u64 0, .string .empty]] 8 (World.laidAll_os _ _ _)
      (World.shaped_of_ZipB (by kernel_rfl) (by kernel_rfl)) (by kernel_rfl) (by kernel_rfl) (by kernel_rfl) (by rw [MakeChecks.laidMetH_plain _ _ _ (by kernel_rfl)]; exact laidMet_laidAll _ (by kernel_rfl) (by kernel_rfl))) ?_
  intro W base args ds gs before hval0 hW hc hsz0 hL _
  have hsz : (DataW.weightsEach Tryz.prog (Tryz.f4.params.toList ++ Rows.relateTotalSpec.plain.varTypes Tryz.prog) (ds ++ gs)).all (· ≤ reachBytes) = true := hsz0
  have hval : ∀ (j : Nat) t v, Tryz.f4.params[j]? = some t → args[j]? = some v → Value.okWide Tryz.prog W .any base t v := hval0
  have hW' := hW
  obtain ⟨p, q, hA0, hV, rfl, hfz, hnd⟩ := hW
  have hA : DataW.TrodAll enc Tryz.prog W 0 (fun _ => true) true Tryz.f4.params.toList args.toList ds p := hA0
  rw [Tryz.params4] at hA hval hsz
  obtain ⟨v0, vs0, d0, ds0, p0, q0, hargs, rfl, rfl, h0, r0⟩ := trodAll_cons hA
  obtain ⟨v1, vs1, d1, ds1, p1, q1, rfl, rfl, rfl, h1, r1⟩ := trodAll_cons r0
  obtain ⟨v2, vs2, d2, ds2, p2, q2, rfl, rfl, rfl, h2, r2⟩ := trodAll_cons r1
  obtain ⟨rfl, rfl, rfl⟩ := trodAll_nil r2
  obtain rfl : args = #[v0, v1, v2] := by cases args; simp_all
  obtain ⟨rfl, rfl⟩ := trodVars_none hV
  obtain ⟨a0_0, a0_1, a0_2, rfl, rfl, rfl, x0, y0, z0⟩ := open_val (hval 0 29 v0 rfl rfl) h0
  have w0 : a0_2.size ≤ 140737488351232 := sized_val hsz (j := 0) rfl rfl
  obtain ⟨a1_0, a1_1, a1_2, rfl, rfl, rfl, x1, y1, z1⟩ := open_val (hval 1 29 v1 rfl rfl) h1
  have w1 : a1_2.size ≤ 140737488351232 := sized_val hsz (j := 1) rfl rfl
  obtain ⟨a2_0, a2_1, a2_2, rfl, rfl, rfl, x2, y2, z2⟩ := open_val (hval 2 29 v2 rfl rfl) h2
  have w2 : a2_2.size ≤ 140737488351232 := sized_val hsz (j := 2) rfl rfl
  clear hA0 hval0 hsz0 hsz
  have b0 := bounds_u64 y0
  have b1 := bounds_u64 y1
  obtain ⟨k, hf⟩ := Pure.RelateTotal (a0_0, a0_1, a0_2) (a1_0, a1_1, a1_2) (a2_0, a2_1, a2_2) (by show a0_2.size ≤ _; omega) (by show a1_2.size ≤ _; omega) b0 b1
  refine (PXRelateTotal.abacuslaw18_RelateTotal.calls k a0_0 a0_1 a0_2 a1_0 a1_1 a1_2 a2_0 a2_1 a2_2 true W hf (HG := ⟨gw_of_laid hL⟩)).mono fun e W' ⟨he, bel⟩ => ?_
  subst he
  exact ⟨_, rfl, _, _, _, [], _, [], hW', trodAll_mk1 (shut_bool Tryz.underlying4 _), (trodAll_cons_mk (shut_val x0 y0 z0) (trodAll_cons_mk (shut_val x1 y1 z1) (trodAll_cons_mk (shut_val x2 y2 z2) trodAll_mk0))), rfl, bel.frame _, fun h => by cases h⟩
theorem f_wf : Rows.relateTotalRow.wf (OpenSpec.ofChange Rows.relateTotalSpec) = true := by kernel_rfl
theorem f_inPlace : (Rows.relateTotalRow.inPlace == Tryz.prog.inPlace 4) = true := by kernel_rfl
theorem f_unfollowed : (Rows.relateTotalRow.unfollowed == Tryz.prog.unfollowed 4) = true := by kernel_rfl
theorem f_recurses : (Rows.relateTotalRow.recurses == Tryz.prog.recurses 4) = true := by kernel_rfl
theorem f_named : (Rows.relateTotalRow.named == Tryz.prog.varsNamed 4) = true := by kernel_rfl
theorem f_plainKeys : (Rows.relateTotalRow.plainKeys == Tryz.prog.plainKeys) = true := whole_plainKeys
theorem f_lifted : (Rows.relateTotalRow.lifted == Tryz.prog.liftsFinal) = true := whole_lifted
theorem f_make : (Tryz.prog.make == some Rows.relateTotalRow.make) = true := whole_make
set_option maxRecDepth 100000 in
theorem closed : joinedFacts Tryz.prog 4 Tryz.f4 Rows.relateTotalSpec Rows.relateTotalRow = true := by
  unfold joinedFacts
  repeat' (with_reducible refine true_and' ?_ ?_)
  all_goals first
    | with_reducible exact f_wf | with_reducible exact whole_laidOut | with_reducible exact whole_mapsRowed | with_reducible exact whole_stops | with_reducible exact whole_knobs | with_reducible exact whole_heard | with_reducible exact f_plainKeys | with_reducible exact whole_enters | with_reducible exact f_lifted | with_reducible exact f_make
    | with_reducible exact f_inPlace | with_reducible exact f_unfollowed | with_reducible exact f_recurses | with_reducible exact f_named
    | kernel_rfl
theorem said : Rows.RelateTotalSaid :=
  OpenClaim.holds_of_wide 4 Tryz.f4 rfl rfl rfl rfl rfl rfl rfl ⟨rfl, rfl, rfl, rfl, rfl⟩ rfl rfl rfl rfl rfl (by kernel_rfl) Tryz.func4 closed
    (of_decide_eq_true (by kernel_rfl)) (by unfold Func.isWrapper; first | (rw [if_pos (by decide +kernel)]; kernel_rfl) | (rw [if_neg (by decide +kernel)]; exact ⟨rfl, rfl⟩))
    (fun os started H enc _ => lifted os started H enc)
theorem plain (f : FuncId) (fn : Func) (hf : Tryz.pinned.checked.prog.funcNamed "abacus/abacuslaw18.RelateTotal" = some f) (hfn : Tryz.pinned.checked.prog.funcs[f]? = some fn) :
    true = Tryz.pinned.checked.prog.looks [] ∧ ∀ (j : Nat) t, fn.params[j]? = some t → Tryz.pinned.checked.prog.wantsStandIn t = false := by
  obtain rfl : f = 4 := Option.some.inj ((show Tryz.prog.funcNamed "abacus/abacuslaw18.RelateTotal" = some 4 by kernel_rfl).symm.trans hf) |>.symm
  obtain rfl : fn = Tryz.f4 := (Option.some.inj (Tryz.func4.symm.trans hfn)).symm
  refine ⟨by kernel_rfl, fun j t ht => ?_⟩
  rw [Tryz.params4] at ht
  have hm : t ∈ [29, 29, 29] := by simpa using Array.mem_of_getElem? ht
  have hall : ([29, 29, 29].all fun u => !Tryz.prog.wantsStandIn u) = true := by kernel_rfl
  exact (show Tryz.prog.wantsStandIn t = false by simpa using List.all_eq_true.1 hall t hm)
end Go.Proofs.YtoanmnhkhookfaaGreatDoor.relateTotal
namespace Go.Proofs.YtoanmnhkhookfaaGreatDoor
/-- The card. -/
theorem relateTotal_card : Rows.RelateTotalCardSaid :=
  Claim7.holds_tied_plain_at .later [] _ _ _ _ relateTotal.said (fun _ h => by cases h) (by kernel_rfl) (fun _ h => by cases h) relateTotal_row_tie rfl ⟨rfl, rfl⟩ (by kernel_rfl) rfl relateTotal.plain (by kernel_rfl)
#print axioms relateTotal_card
end Go.Proofs.YtoanmnhkhookfaaGreatDoor
