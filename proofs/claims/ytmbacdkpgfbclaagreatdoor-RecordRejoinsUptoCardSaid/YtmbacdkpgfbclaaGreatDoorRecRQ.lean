/- RecordRejoins: what the second form's card rests on; conditions: none. -/
import Derived.Test.YtmbacdkpgfbclaaGreatDoorFacts
import Derived.Lib.SmallJoins
import Derived.Deep.Slices
import Derived.OpenShut
import Derived.Shelf.Vars
import Derived.Test.YtmbacdkpgfbclaaGreatDoorRPure
import Derived.Deep.DeepHandedRow
import Derived.SevenTiedAt
import Derived.ShutString
namespace Go.Proofs.YtmbacdkpgfbclaaGreatDoor
open Go.ChangeShapes Go.WideShapes Go.ChangeAt Go.RowKit Go.Lib Go.Joins
set_option maxRecDepth 100000
variable {H : Type} {enc : TypeId × Value → H}
end Go.Proofs.YtmbacdkpgfbclaaGreatDoor
namespace Go.Proofs.YtmbacdkpgfbclaaGreatDoor
open Go.ChangeShapes Go.WideShapes Go.ChangeAt Go.RowKit
set_option linter.unusedVariables false

/-- internal/bytealg.MaxLen holds some int. -/
theorem maxLen (W : World) (h : W.ShapedOpen Tryz.prog) : ∃ m : Int, W.cell? ⟨0, 0, none⟩ = some (.int .i64 m) :=
 cell_of_shapedOpen_int (P := Tryz.prog) (g := 0) (t := 3) (zero := #[.int .i64 0]) h (of_decide_eq_true (by kernel_rfl)) (by kernel_rfl) rfl (by kernel_rfl) (by kernel_rfl) Tryz.underlying3
section
variable {H : Type} {enc : TypeId × Value → H}
end
end Go.Proofs.YtmbacdkpgfbclaaGreatDoor
namespace Go.Proofs.YtmbacdkpgfbclaaGreatDoor.recordRejoins
open Go.ChangeShapes Go.WideShapes Go.ChangeAt Go.RowKit
open Go.ChangeMaps (open_string shut_string)
open Go.Proofs.YtmbacdkpgfbclaaGreatDoor
set_option linter.unusedVariables false

/-- What the bound gives: the texts' lengths. -/
theorem short {H : Type} {s t : ByteArray} (hk : Rows.uptoSmall H [.lit (.string s.data.toList), .lit (.string t.data.toList)] = true) : s.size ≤ 1048576 ∧ t.size ≤ 1048576 := by
 have h : Rows.uptoBulkAll [DataW.lit (H := H) (.string s.data.toList), DataW.lit (H := H) (.string t.data.toList)] ≤ 1048576 := of_decide_eq_true hk; simp only [Rows.uptoBulkAll, Rows.uptoBulk] at h; have e : s.data.toList.length = s.size := by rw [Array.length_toList]; rfl
 have e2 : t.data.toList.length = t.size := by rw [Array.length_toList]; rfl
 omega
set_option maxRecDepth 100000 in
theorem contract (H : Type) (enc : TypeId × Value → H) (W : World) (base : Nat) (args : Array Value) (ds gs : List (DataW H)) (before : List MemPlace)
  (hval0 : ∀ (j : Nat) t v, Tryz.f7.params[j]? = some t → args[j]? = some v → Value.okWide Tryz.prog W .any base t v)
  (hW : DataW.Whole enc Tryz.prog Tryz.f7.params.toList Rows.recordRejoinsSpec.vars false W args.toList ds gs before) (hk : Rows.uptoSmall H (ds ++ gs) = true) (hL : laidMetH Tryz.prog Rows.recordRejoinsUptoRow.laid W) (hsh : W.ShapedOpen Tryz.prog) :
  Calls Tryz.prog 7 args W fun e W' => ∃ v, e = .returned v ∧ Rows.recordRejoinsSpec.post enc Tryz.prog Tryz.f7 false true false false W args v W' := by
 have hval : ∀ (j : Nat) t v, Tryz.f7.params[j]? = some t → args[j]? = some v → Value.okWide Tryz.prog W .any base t v := hval0; have hW' := hW; obtain ⟨p, q, hA0, hV, rfl, hfz, hnd⟩ := hW; have hA : DataW.TrodAll enc Tryz.prog W 0 (fun _ => true) true Tryz.f7.params.toList args.toList ds p := hA0; rw [Tryz.params7] at hA hval; obtain ⟨v0, vs0, d0, ds0, p0, q0, hargs, rfl, rfl, h0, r0⟩ := trodAll_cons hA; obtain ⟨v1, vs1, d1, ds1, p1, q1, rfl, rfl, rfl, h1, r1⟩ := trodAll_cons r0; obtain ⟨rfl, rfl, rfl⟩ := trodAll_nil r1; obtain rfl : args = #[v0, v1] := by cases args; simp_all
 obtain ⟨rfl, rfl⟩ := trodVars_none hV; obtain ⟨a0, rfl, rfl, rfl, y0⟩ := open_string Tryz.underlying9 (hval 0 9 v0 rfl rfl) h0; obtain ⟨a1, rfl, rfl, rfl, y1⟩ := open_string Tryz.underlying9 (hval 1 9 v1 rfl rfl) h1; clear hA0 hval0; obtain ⟨z0, z1⟩ := short hk; obtain ⟨k, hf⟩ := Plain.main a0 a1 z0 z1; refine (PXJ.abacuslaw21_RecordRejoins.calls k a0 a1 true W hf (HG := ⟨⟨gw_of_laid hL, maxLen W hsh⟩⟩)).mono fun e W' ⟨he, bel⟩ => ?_
 subst he; exact ⟨_, rfl, _, _, _, [], _, [], hW', trodAll_mk1 (shut_bool Tryz.underlying4 _), (trodAll_cons_mk (shut_string Tryz.underlying9 y0) (trodAll_cons_mk (shut_string Tryz.underlying9 y1) trodAll_mk0)), rfl, bel.frame _, fun h => by cases h⟩
set_option maxRecDepth 100000 in
theorem ok_in (os : Os) : Input.okWideB Tryz.prog ((World.laidAll Tryz.prog os Rows.recordRejoinsUptoRow.laid).forCall (fun _ _ => 0) ⟨#[], #[.string .empty, .string .empty], []⟩) 7 ⟨#[], #[.string .empty, .string .empty], []⟩ = true := by kernel_rfl
set_option maxRecDepth 100000 in
theorem reads (os : Os) {H : Type} (enc : TypeId × Value → H) : ∃ places, DataW.whole enc Tryz.prog ((World.laidAll Tryz.prog os Rows.recordRejoinsUptoRow.laid).forCall (fun _ _ => 0) ⟨#[], #[.string .empty, .string .empty], []⟩).memory Tryz.f7.params.toList Rows.recordRejoinsSpec.vars false #[Value.string .empty, Value.string .empty].toList 8 = some ([.lit (.string []), .lit (.string [])], [], places) :=
 ⟨[], by kernel_rfl⟩
set_option maxRecDepth 100000 in
theorem lifted (os : Os) (started : os.Started) (H : Type) (enc : TypeId × Value → H) (F : Stop.Interp) :
  ReturnsInHanded {} Tryz.checked os 7 .any ((Rows.OpenSpec.upto Rows.recordRejoinsSpec).preRow enc Tryz.prog Tryz.f7 Rows.recordRejoinsUptoRow.domain false Rows.recordRejoinsUptoRow.laid) (((Rows.OpenSpec.upto Rows.recordRejoinsSpec).at F).post enc Tryz.prog Tryz.f7 false true false false) := by
 obtain ⟨places, hx⟩ := reads os enc; refine returnsInHanded_of_row (C := Tryz.checked) (s := Rows.OpenSpec.upto Rows.recordRejoinsSpec) own started (by kernel_rfl) Tryz.func7
  ⟨World.laidAll Tryz.prog os Rows.recordRejoinsUptoRow.laid, fun _ _ => 0, ⟨#[], #[.string .empty, .string .empty], []⟩, World.laidAll_os _ _ _, World.shaped_of_ZipB (by kernel_rfl) (by kernel_rfl), (Input.okWide_of_okWideB (base := 0) (ok_in os)).1, (Input.okWide_of_okWideB (ok_in os)).2,
   OpenSpec.preRow_of_cond 8 hx (by kernel_rfl) (fun k hk => by cases hk; kernel_rfl) (by kernel_rfl) (by rw [MakeChecks.laidMetH_plain _ _ _ (by kernel_rfl)]; exact laidMet_laidAll _ (by kernel_rfl) (by kernel_rfl)), by
   simp only [Assume.holds]; exact ⟨by simp, by simp, fun _ => Modest.zero, by simp, by simp⟩⟩ ?_
 intro W base args ds gs before hval hW _ hcond _ hL hsh _; exact contract H enc W base args ds gs before hval hW (hcond _ rfl) hL hsh
theorem f_wf : Rows.recordRejoinsUptoRow.wf (Rows.OpenSpec.upto Rows.recordRejoinsSpec) = true := by kernel_rfl
theorem f_inPlace : (Rows.recordRejoinsUptoRow.inPlace == Tryz.prog.inPlace 7) = true := by kernel_rfl
theorem f_unfollowed : (Rows.recordRejoinsUptoRow.unfollowed == Tryz.prog.unfollowed 7) = true := by kernel_rfl
theorem f_recurses : (Rows.recordRejoinsUptoRow.recurses == Tryz.prog.recurses 7) = true := by kernel_rfl
theorem f_named : (Rows.recordRejoinsUptoRow.named == Tryz.prog.varsNamed 7) = true := by kernel_rfl
theorem f_plainKeys : (Rows.recordRejoinsUptoRow.plainKeys == Tryz.prog.plainKeys) = true := whole_plainKeys
theorem f_lifted : (Rows.recordRejoinsUptoRow.lifted == Tryz.prog.liftsFinal) = true := whole_lifted
theorem f_make : (Tryz.prog.make == some Rows.recordRejoinsUptoRow.make) = true := whole_make
set_option maxRecDepth 100000 in
theorem closed : joinedFacts Tryz.prog 7 Tryz.f7 (Rows.OpenSpec.upto Rows.recordRejoinsSpec).bare Rows.recordRejoinsUptoRow = true := by
 unfold joinedFacts; repeat' (with_reducible refine true_and' ?_ ?_)
 all_goals first
  | with_reducible exact f_wf | with_reducible exact whole_laidOut | with_reducible exact whole_mapsRowed | with_reducible exact whole_stops | with_reducible exact whole_knobs | with_reducible exact whole_heard | with_reducible exact f_plainKeys | with_reducible exact whole_enters | with_reducible exact f_lifted | with_reducible exact f_make
  | with_reducible exact f_inPlace | with_reducible exact f_unfollowed | with_reducible exact f_recurses | with_reducible exact f_named
  | kernel_rfl
theorem said : Rows.RecordRejoinsUptoSaid :=
 OpenClaim.holds_of_cond 7 Tryz.f7 rfl rfl rfl rfl rfl rfl rfl ⟨rfl, rfl, rfl, rfl, rfl⟩ rfl rfl rfl rfl rfl (by kernel_rfl) Tryz.func7 closed
  (of_decide_eq_true (by kernel_rfl)) (by unfold Func.isWrapper; first | (rw [if_pos (by decide +kernel)]; kernel_rfl) | (rw [if_neg (by decide +kernel)]; exact ⟨rfl, rfl⟩))
  (fun os started H enc _ F => by rw [OpenClaim.pre_eq_preRow]; exact lifted os started H enc F)
theorem plain (f : FuncId) (fn : Func) (hf : Tryz.pinned.checked.prog.funcNamed "abacus/abacuslaw21.RecordRejoins" = some f) (hfn : Tryz.pinned.checked.prog.funcs[f]? = some fn) :
  true = Tryz.pinned.checked.prog.looks [] ∧ ∀ (j : Nat) t, fn.params[j]? = some t → Tryz.pinned.checked.prog.wantsStandIn t = false := by
 obtain rfl : f = 7 := Option.some.inj ((show Tryz.prog.funcNamed "abacus/abacuslaw21.RecordRejoins" = some 7 by kernel_rfl).symm.trans hf) |>.symm; obtain rfl : fn = Tryz.f7 := (Option.some.inj (Tryz.func7.symm.trans hfn)).symm; refine ⟨by kernel_rfl, fun j t ht => ?_⟩; rw [Tryz.params7] at ht; have hm : t ∈ [9, 9] := by simpa using Array.mem_of_getElem? ht
 have hall : ([9, 9].all fun u => !Tryz.prog.wantsStandIn u) = true := by kernel_rfl
 exact (show Tryz.prog.wantsStandIn t = false by simpa using List.all_eq_true.1 hall t hm)
end Go.Proofs.YtmbacdkpgfbclaaGreatDoor.recordRejoins
