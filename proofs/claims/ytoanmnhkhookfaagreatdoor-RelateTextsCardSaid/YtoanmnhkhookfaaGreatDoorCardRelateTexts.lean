/- RelateTexts: the card; conditions: none. -/
import Derived.Test.YtoanmnhkhookfaaGreatDoorFacts
import Derived.Test.YtoanmnhkhookfaaGreatDoorPXRelateTextsx8
import Derived.Test.YtoanmnhkhookfaaGreatDoorPureRelateTexts
import Derived.OpenShut
import Derived.ShutString
namespace Go.Proofs.YtoanmnhkhookfaaGreatDoor.relateTexts
open Go.ChangeShapes Go.WideShapes Go.ChangeAt Go.RowKit
open Go.ChangeMaps (open_string shut_string)
open Go.Proofs.YtoanmnhkhookfaaGreatDoor
set_option linter.unusedVariables false

set_option maxRecDepth 100000 in
theorem lifted (os : Os) (started : os.Started) (H : Type) (enc : TypeId × Value → H) :
    ReturnsInHanded {} Tryz.checked os 3 .any (fun w args => (Rows.relateTextsSpec.pre enc Tryz.prog Tryz.f3 Rows.relateTextsRow.domain false w args ∧ laidMetH Tryz.prog Rows.relateTextsRow.laid w) ∧ sizedMet enc Tryz.prog Tryz.f3 (OpenSpec.ofChange Rows.relateTextsSpec) false w args)
      (Rows.relateTextsSpec.post enc Tryz.prog Tryz.f3 false true false false) := by
  refine returnsInHanded_of_change_and (C := Tryz.checked) (X := fun w _ => laidMetH Tryz.prog Rows.relateTextsRow.laid w) (fun _ _ _ hh h => h.of_heap hh) own started (by kernel_rfl) Tryz.func3
    (ChangeSpec.witness_shaped (enc := enc) (C := Tryz.checked) (os := os) (X := fun w _ => laidMetH Tryz.prog Rows.relateTextsRow.laid w) false (World.laidAll Tryz.prog os Rows.relateTextsRow.laid) #[.string .empty, .string .empty, .string .empty, .int .u64 0] 8 (World.laidAll_os _ _ _)
      (World.shaped_of_ZipB (by kernel_rfl) (by kernel_rfl)) (by kernel_rfl) (by kernel_rfl) (by kernel_rfl) (by rw [MakeChecks.laidMetH_plain _ _ _ (by kernel_rfl)]; exact laidMet_laidAll _ (by kernel_rfl) (by kernel_rfl))) ?_
  intro W base args ds gs before hval0 hW hc hsz0 hL _
  have hsz : (DataW.weightsEach Tryz.prog (Tryz.f3.params.toList ++ Rows.relateTextsSpec.plain.varTypes Tryz.prog) (ds ++ gs)).all (· ≤ reachBytes) = true := hsz0
  have hval : ∀ (j : Nat) t v, Tryz.f3.params[j]? = some t → args[j]? = some v → Value.okWide Tryz.prog W .any base t v := hval0
  have hW' := hW
  obtain ⟨p, q, hA0, hV, rfl, hfz, hnd⟩ := hW
  have hA : DataW.TrodAll enc Tryz.prog W 0 (fun _ => true) true Tryz.f3.params.toList args.toList ds p := hA0
  rw [Tryz.params3] at hA hval hsz
  obtain ⟨v0, vs0, d0, ds0, p0, q0, hargs, rfl, rfl, h0, r0⟩ := trodAll_cons hA
  obtain ⟨v1, vs1, d1, ds1, p1, q1, rfl, rfl, rfl, h1, r1⟩ := trodAll_cons r0
  obtain ⟨v2, vs2, d2, ds2, p2, q2, rfl, rfl, rfl, h2, r2⟩ := trodAll_cons r1
  obtain ⟨v3, vs3, d3, ds3, p3, q3, rfl, rfl, rfl, h3, r3⟩ := trodAll_cons r2
  obtain ⟨rfl, rfl, rfl⟩ := trodAll_nil r3
  obtain rfl : args = #[v0, v1, v2, v3] := by cases args; simp_all
  obtain ⟨rfl, rfl⟩ := trodVars_none hV
  obtain ⟨a0, rfl, rfl, rfl, y0⟩ := open_string Tryz.underlying9 (hval 0 9 v0 rfl rfl) h0
  have w0 : a0.size ≤ 140737488351232 := by
    have z := sized_string hsz (j := 0) (t := 9) rfl rfl
    rw [Array.length_toList] at z
    exact z
  obtain ⟨a1, rfl, rfl, rfl, y1⟩ := open_string Tryz.underlying9 (hval 1 9 v1 rfl rfl) h1
  have w1 : a1.size ≤ 140737488351232 := by
    have z := sized_string hsz (j := 1) (t := 9) rfl rfl
    rw [Array.length_toList] at z
    exact z
  obtain ⟨a2, rfl, rfl, rfl, y2⟩ := open_string Tryz.underlying9 (hval 2 9 v2 rfl rfl) h2
  have w2 : a2.size ≤ 140737488351232 := by
    have z := sized_string hsz (j := 2) (t := 9) rfl rfl
    rw [Array.length_toList] at z
    exact z
  obtain ⟨a3, rfl, rfl, rfl, w3⟩ := open_int Tryz.underlying22 (hval 3 22 v3 rfl rfl) h3
  clear hA0 hval0 hsz0 hsz
  obtain ⟨k, hf⟩ := Pure.RelateTexts a0 a1 a2 a3 w0 w1 w2 w3
  refine (PXRelateTexts.abacuslaw18_RelateTexts.calls k a0 a1 a2 a3 true W hf (HG := ⟨gw_of_laid hL⟩)).mono fun e W' ⟨he, bel⟩ => ?_
  subst he
  exact ⟨_, rfl, _, _, _, [], _, [], hW', trodAll_mk1 (shut_bool Tryz.underlying4 _), (trodAll_cons_mk (shut_string Tryz.underlying9 y0) (trodAll_cons_mk (shut_string Tryz.underlying9 y1) (trodAll_cons_mk (shut_string Tryz.underlying9 y2) (trodAll_cons_mk (shut_int Tryz.underlying22 w3) trodAll_mk0)))), rfl, bel.frame _, fun h => by cases h⟩
theorem f_wf : Rows.relateTextsRow.wf (OpenSpec.ofChange Rows.relateTextsSpec) = true := by kernel_rfl
theorem f_inPlace : (Rows.relateTextsRow.inPlace == Tryz.prog.inPlace 3) = true := by kernel_rfl
theorem f_unfollowed : (Rows.relateTextsRow.unfollowed == Tryz.prog.unfollowed 3) = true := by kernel_rfl
theorem f_recurses : (Rows.relateTextsRow.recurses == Tryz.prog.recurses 3) = true := by kernel_rfl
theorem f_named : (Rows.relateTextsRow.named == Tryz.prog.varsNamed 3) = true := by kernel_rfl
set_option maxRecDepth 100000 in
theorem closed : joinedFacts Tryz.prog 3 Tryz.f3 Rows.relateTextsSpec Rows.relateTextsRow = true := by
  unfold joinedFacts
  repeat' (with_reducible refine true_and' ?_ ?_)
  all_goals first
    | with_reducible exact f_wf | with_reducible exact whole_laidOut | with_reducible exact whole_mapsRowed | with_reducible exact whole_stops | with_reducible exact whole_knobs | with_reducible exact whole_heard | with_reducible exact whole_plainKeys | with_reducible exact whole_enters | with_reducible exact whole_lifted | with_reducible exact whole_make
    | with_reducible exact f_inPlace | with_reducible exact f_unfollowed | with_reducible exact f_recurses | with_reducible exact f_named
    | kernel_rfl
theorem said : Rows.RelateTextsSaid :=
  OpenClaim.holds_of_wide 3 Tryz.f3 rfl rfl rfl rfl rfl rfl rfl ⟨rfl, rfl, rfl, rfl, rfl⟩ rfl rfl rfl rfl rfl (by kernel_rfl) Tryz.func3 closed
    (of_decide_eq_true (by kernel_rfl)) (by unfold Func.isWrapper; first | (rw [if_pos (by decide +kernel)]; kernel_rfl) | (rw [if_neg (by decide +kernel)]; exact ⟨rfl, rfl⟩))
    (fun os started H enc _ => lifted os started H enc)
theorem plain (f : FuncId) (fn : Func) (hf : Tryz.pinned.checked.prog.funcNamed "abacus/abacuslaw18.RelateTexts" = some f) (hfn : Tryz.pinned.checked.prog.funcs[f]? = some fn) :
    true = Tryz.pinned.checked.prog.looks [] ∧ ∀ (j : Nat) t, fn.params[j]? = some t → Tryz.pinned.checked.prog.wantsStandIn t = false := by
  obtain rfl : f = 3 := Option.some.inj ((show Tryz.prog.funcNamed "abacus/abacuslaw18.RelateTexts" = some 3 by kernel_rfl).symm.trans hf) |>.symm
  obtain rfl : fn = Tryz.f3 := (Option.some.inj (Tryz.func3.symm.trans hfn)).symm
  refine ⟨by kernel_rfl, fun j t ht => ?_⟩
  rw [Tryz.params3] at ht
  have hm : t ∈ [9, 9, 9, 22] := by simpa using Array.mem_of_getElem? ht
  have hall : ([9, 9, 9, 22].all fun u => !Tryz.prog.wantsStandIn u) = true := by kernel_rfl
  exact (show Tryz.prog.wantsStandIn t = false by simpa using List.all_eq_true.1 hall t hm)
end Go.Proofs.YtoanmnhkhookfaaGreatDoor.relateTexts
namespace Go.Proofs.YtoanmnhkhookfaaGreatDoor
/-- The card. -/
theorem relateTexts_card : Rows.RelateTextsCardSaid :=
  Claim7.holds_tied_plain_at .later [] _ _ _ _ relateTexts.said (fun _ h => by cases h) (by kernel_rfl) (fun _ h => by cases h) relateTexts_row_tie rfl ⟨rfl, rfl⟩ (by kernel_rfl) rfl relateTexts.plain (by kernel_rfl)
#print axioms relateTexts_card
end Go.Proofs.YtoanmnhkhookfaaGreatDoor
