/- RecordNothing: what the card rests on; conditions: none. -/
import Derived.Test.YtmbacdkpgfbclaaGreatDoorFacts
import Derived.Lib.SmallJoins
import Derived.Deep.Slices
import Derived.OpenShut
import Derived.Shelf.Vars
import Derived.Test.YtmbacdkpgfbclaaGreatDoorRecN
import Derived.ShutString
namespace Go.Proofs.YtmbacdkpgfbclaaGreatDoor
open Go.ChangeShapes Go.WideShapes Go.ChangeAt Go.RowKit Go.Lib Go.Joins
set_option maxRecDepth 100000
variable {H : Type} {enc : TypeId × Value → H}
theorem open_val {W : World} {b0 base : Nat} {r : Reach} {sp : Nat → Bool} {held : Bool} {v : Value} {d : DataW H} {p : List MemPlace} (hv : Value.okWide Tryz.prog W r b0 26 v) (h : DataW.Trod enc Tryz.prog W base sp held 26 v d p) :
  ∃ (a0 a1 : Int) (a2 : ByteArray), v = .agg #[.int .i64 a0, .int .u64 a1, .string a2] ∧ d = .agg [.lit (.int .i64 a0), .lit (.int .u64 a1), .lit (.string a2.data.toList)] ∧ p = [] ∧ (Lit.int .i64 a0).wf = true ∧ (Lit.int .u64 a1).wf = true ∧ a2.size ≤ maxLen := by
 obtain ⟨v0, v1, v2, y0, y1, y2, n, rfl, rfl, rfl, h0, h1, h2⟩ := open_agg3 Tryz.underlying26 (by kernel_rfl) (by kernel_rfl) hv h; obtain ⟨a0, e0, rfl, w0⟩ := DataW.trod_int Tryz.underlying3 h0; obtain ⟨a1, e1, rfl, w1⟩ := DataW.trod_int Tryz.underlying24 h1; obtain ⟨a2, e2, rfl, w2⟩ := DataW.trod_string Tryz.underlying9 h2; cases e0
 cases e1
 cases e2
 exact ⟨a0, a1, a2, rfl, rfl, rfl, w0, w1, w2⟩
theorem shut_val {W : World} {base : Nat} {sp : Nat → Bool} {held : Bool} {a0 a1 : Int} {a2 : ByteArray} (w0 : (Lit.int .i64 a0).wf = true) (w1 : (Lit.int .u64 a1).wf = true) (w2 : a2.size ≤ maxLen) :
  DataW.Trod enc Tryz.prog W base sp held 26 (.agg #[.int .i64 a0, .int .u64 a1, .string a2]) (.agg [.lit (.int .i64 a0), .lit (.int .u64 a1), .lit (.string a2.data.toList)]) [] :=
 shut_agg3 (y0 := (_, [])) (y1 := (_, [])) (y2 := (_, [])) Tryz.underlying26 (by kernel_rfl) (by kernel_rfl) ⟨1, trod_int_mk 0 Tryz.underlying3 w0⟩ ⟨1, trod_int_mk 0 Tryz.underlying24 w1⟩ (Go.Deep.shut_string_cell Tryz.underlying9 w2)
theorem sized_val {ts : List TypeId} {ds : List (DataW H)} (h : (DataW.weightsEach Tryz.prog ts ds).all (· ≤ reachBytes) = true) {j : Nat} {a0 a1 : Int} {a2 : ByteArray} (ht : ts[j]? = some 26) (hd : ds[j]? = some (.agg [.lit (.int .i64 a0), .lit (.int .u64 a1), .lit (.string a2.data.toList)])) : a2.size ≤ 140737488351232 := by
 have z := List.all_eq_true.1 h _ (DataW.weights_mem_each ht hd a2.data.toList.length (by simp [DataW.weights, DataW.weightsEach, Tryz.underlying26])); rw [Array.length_toList] at z; exact of_decide_eq_true z
end Go.Proofs.YtmbacdkpgfbclaaGreatDoor
namespace Go.Proofs.YtmbacdkpgfbclaaGreatDoor
open Go.ChangeShapes Go.WideShapes Go.ChangeAt Go.RowKit
set_option linter.unusedVariables false

/-- internal/bytealg.MaxLen holds some int. -/
theorem maxLen (W : World) (h : W.ShapedOpen Tryz.prog) : ∃ m : Int, W.cell? ⟨0, 0, none⟩ = some (.int .i64 m) :=
 cell_of_shapedOpen_int (P := Tryz.prog) (g := 0) (t := 3) (zero := #[.int .i64 0]) h (of_decide_eq_true (by kernel_rfl)) (by kernel_rfl) rfl (by kernel_rfl) (by kernel_rfl) Tryz.underlying3
section
variable {H : Type} {enc : TypeId × Value → H}
/-- The kit's way from a contract to the handed form, the world's shape handed on. -/
theorem handed_shaped {C : Checked} {os : Os} {f : FuncId} {fn : Func} {s : ChangeSpec} {conds : List PathCond} {apart fresh handsOn again : Bool} {X : World → Array Value → Prop}
  (hX : ∀ (w w' : World) (args : Array Value), w.heap = w'.heap → X w args → X w' args)
  (own : ownKnob C.prog.godebug = none) (started : os.Started) (noInit : C.prog.inits.idxOf? f = none) (hfn : C.prog.funcs[f]? = some fn)
  (witness : ∃ (w : World) (tape : Tape) (i : Input), w.os = os ∧ (w.forCall tape i).Shaped C.prog ∧ i.vars = [] ∧ Input.okWide C.prog (w.forCall tape i) .any w.heap.size f i ∧
   ((s.pre enc C.prog fn conds apart (w.forCall tape i).memory i.args ∧ X (w.forCall tape i).memory i.args) ∧ sizedMet enc C.prog fn (OpenSpec.ofChange s) apart (w.forCall tape i).memory i.args) ∧ ({} : Assume).holds C.prog (lone (Frame.enter C.prog f i.args .normal) [] (w.forCall tape i)))
  (contract : ∀ (W : World) (base : Nat) (args : Array Value) (ds gs : List (DataW H)) (before : List MemPlace),
   (∀ (j : Nat) t v, fn.params[j]? = some t → args[j]? = some v → Value.okWide C.prog W .any base t v) →
   DataW.Whole enc C.prog fn.params.toList s.vars apart W args.toList ds gs before →
   conds.all (PathCond.test C.prog ⟨fn.params.toList, ds, s.plain.varTypes C.prog, gs⟩) = true →
   (DataW.weightsEach C.prog (fn.params.toList ++ s.plain.varTypes C.prog) (ds ++ gs)).all (· ≤ reachBytes) = true → X W args → W.ShapedOpen C.prog →
   Calls C.prog f args W fun e W' => ∃ v, e = .returned v ∧ s.post enc C.prog fn apart fresh handsOn again W args v W') :
  ReturnsInHanded {} C os f .any (fun w args => (s.pre enc C.prog fn conds apart w args ∧ X w args) ∧ sizedMet enc C.prog fn (OpenSpec.ofChange s) apart w args) (s.post enc C.prog fn apart fresh handsOn again) := by
 refine returnsInHanded_of_calls own started noInit witness ?_; intro w tape i _ hsh _ hok hpre _; obtain ⟨_, _, _, fn', hfn', _, _, _, _, hval⟩ := hok; have e : fn' = fn := Option.some.inj (hfn'.symm.trans hfn); subst e; obtain ⟨⟨⟨ds, gs, before, hw, hc⟩, hx⟩, hz⟩ := hpre; have hw' := DataW.Whole.of_heap (w' := w.forCall tape i) (by rfl) hw; refine (contract (w.forCall tape i) w.heap.size i.args ds gs before hval hw' hc (hz.weights hw) (hX _ _ _ (by rfl) hx) hsh).mono fun e W' ⟨v, he, hp⟩ => ?_
 subst he; exact ChangeSpec.post_blind hp
end
end Go.Proofs.YtmbacdkpgfbclaaGreatDoor
namespace Go.Proofs.YtmbacdkpgfbclaaGreatDoor.recordNothing
open Go.ChangeShapes Go.WideShapes Go.ChangeAt Go.RowKit
open Go.ChangeMaps (open_string shut_string)
open Go.Proofs.YtmbacdkpgfbclaaGreatDoor
set_option linter.unusedVariables false

set_option maxRecDepth 100000 in
theorem lifted (os : Os) (started : os.Started) (H : Type) (enc : TypeId × Value → H) :
  ReturnsInHanded {} Tryz.checked os 5 .any (fun w args => (Rows.recordNothingSpec.pre enc Tryz.prog Tryz.f5 Rows.recordNothingRow.domain false w args ∧ laidMetH Tryz.prog Rows.recordNothingRow.laid w) ∧ sizedMet enc Tryz.prog Tryz.f5 (OpenSpec.ofChange Rows.recordNothingSpec) false w args)
   (Rows.recordNothingSpec.post enc Tryz.prog Tryz.f5 false true false false) := by
 refine handed_shaped (C := Tryz.checked) (X := fun w _ => laidMetH Tryz.prog Rows.recordNothingRow.laid w) (fun _ _ _ hh h => h.of_heap hh) own started (by kernel_rfl) Tryz.func5
  (ChangeSpec.witness_shaped (enc := enc) (C := Tryz.checked) (os := os) (X := fun w _ => laidMetH Tryz.prog Rows.recordNothingRow.laid w) false (World.laidAll Tryz.prog os Rows.recordNothingRow.laid) #[.int .i64 0, .agg #[.int .i64 0, .int .u64 0, .string .empty], .string .empty] 8 (World.laidAll_os _ _ _)
   (World.shaped_of_ZipB (by kernel_rfl) (by kernel_rfl)) (by kernel_rfl) (by kernel_rfl) (by kernel_rfl) (by rw [MakeChecks.laidMetH_plain _ _ _ (by kernel_rfl)]; exact laidMet_laidAll _ (by kernel_rfl) (by kernel_rfl))) ?_
 intro W base args ds gs before hval0 hW hc hsz0 hL hsh; have hsz : (DataW.weightsEach Tryz.prog (Tryz.f5.params.toList ++ Rows.recordNothingSpec.plain.varTypes Tryz.prog) (ds ++ gs)).all (· ≤ reachBytes) = true := hsz0; have hval : ∀ (j : Nat) t v, Tryz.f5.params[j]? = some t → args[j]? = some v → Value.okWide Tryz.prog W .any base t v := hval0; have hW' := hW; obtain ⟨p, q, hA0, hV, rfl, hfz, hnd⟩ := hW; have hA : DataW.TrodAll enc Tryz.prog W 0 (fun _ => true) true Tryz.f5.params.toList args.toList ds p := hA0; rw [Tryz.params5] at hA hval hsz; obtain ⟨v0, vs0, d0, ds0, p0, q0, hargs, rfl, rfl, h0, r0⟩ := trodAll_cons hA; obtain ⟨v1, vs1, d1, ds1, p1, q1, rfl, rfl, rfl, h1, r1⟩ := trodAll_cons r0; obtain ⟨v2, vs2, d2, ds2, p2, q2, rfl, rfl, rfl, h2, r2⟩ := trodAll_cons r1; obtain ⟨rfl, rfl, rfl⟩ := trodAll_nil r2; obtain rfl : args = #[v0, v1, v2] := by cases args; simp_all
 obtain ⟨rfl, rfl⟩ := trodVars_none hV; obtain ⟨a0, rfl, rfl, rfl, w0⟩ := open_int Tryz.underlying3 (hval 0 3 v0 rfl rfl) h0; obtain ⟨a1_0, a1_1, a1_2, rfl, rfl, rfl, x1, y1, z1⟩ := open_val (hval 1 26 v1 rfl rfl) h1; have w1 : a1_2.size ≤ 140737488351232 := sized_val hsz (j := 1) rfl rfl; obtain ⟨a2, rfl, rfl, rfl, y2⟩ := open_string Tryz.underlying9 (hval 2 9 v2 rfl rfl) h2; have w2 : a2.size ≤ 140737488351232 := by
  have z := sized_string hsz (j := 2) (t := 9) rfl rfl; rw [Array.length_toList] at z; exact z
 clear hA0 hval0 hsz0 hsz; refine (RecordNothing_walk a0 a1_0 a1_1 a1_2 a2 W ⟨gw_of_laid hL, maxLen W hsh⟩).mono fun e W' ⟨he, bel⟩ => ?_
 subst he; exact ⟨_, rfl, _, _, _, [], _, [], hW', trodAll_mk1 (shut_bool Tryz.underlying4 _), (trodAll_cons_mk (shut_int Tryz.underlying3 w0) (trodAll_cons_mk (shut_val x1 y1 z1) (trodAll_cons_mk (shut_string Tryz.underlying9 y2) trodAll_mk0))), rfl, bel.frame _, fun h => by cases h⟩
theorem f_wf : Rows.recordNothingRow.wf (OpenSpec.ofChange Rows.recordNothingSpec) = true := by kernel_rfl
theorem f_inPlace : (Rows.recordNothingRow.inPlace == Tryz.prog.inPlace 5) = true := by kernel_rfl
theorem f_unfollowed : (Rows.recordNothingRow.unfollowed == Tryz.prog.unfollowed 5) = true := by kernel_rfl
theorem f_recurses : (Rows.recordNothingRow.recurses == Tryz.prog.recurses 5) = true := by kernel_rfl
theorem f_named : (Rows.recordNothingRow.named == Tryz.prog.varsNamed 5) = true := by kernel_rfl
theorem f_plainKeys : (Rows.recordNothingRow.plainKeys == Tryz.prog.plainKeys) = true := whole_plainKeys
theorem f_lifted : (Rows.recordNothingRow.lifted == Tryz.prog.liftsFinal) = true := whole_lifted
theorem f_make : (Tryz.prog.make == some Rows.recordNothingRow.make) = true := whole_make
set_option maxRecDepth 100000 in
theorem closed : joinedFacts Tryz.prog 5 Tryz.f5 Rows.recordNothingSpec Rows.recordNothingRow = true := by
 unfold joinedFacts; repeat' (with_reducible refine true_and' ?_ ?_)
 all_goals first
  | with_reducible exact f_wf | with_reducible exact whole_laidOut | with_reducible exact whole_mapsRowed | with_reducible exact whole_stops | with_reducible exact whole_knobs | with_reducible exact whole_heard | with_reducible exact f_plainKeys | with_reducible exact whole_enters | with_reducible exact f_lifted | with_reducible exact f_make
  | with_reducible exact f_inPlace | with_reducible exact f_unfollowed | with_reducible exact f_recurses | with_reducible exact f_named
  | kernel_rfl
theorem said : Rows.RecordNothingSaid :=
 OpenClaim.holds_of_wide 5 Tryz.f5 rfl rfl rfl rfl rfl rfl rfl ⟨rfl, rfl, rfl, rfl, rfl⟩ rfl rfl rfl rfl rfl (by kernel_rfl) Tryz.func5 closed
  (of_decide_eq_true (by kernel_rfl)) (by unfold Func.isWrapper; first | (rw [if_pos (by decide +kernel)]; kernel_rfl) | (rw [if_neg (by decide +kernel)]; exact ⟨rfl, rfl⟩))
  (fun os started H enc _ => lifted os started H enc)
theorem plain (f : FuncId) (fn : Func) (hf : Tryz.pinned.checked.prog.funcNamed "abacus/abacuslaw21.RecordNothing" = some f) (hfn : Tryz.pinned.checked.prog.funcs[f]? = some fn) :
  true = Tryz.pinned.checked.prog.looks [] ∧ ∀ (j : Nat) t, fn.params[j]? = some t → Tryz.pinned.checked.prog.wantsStandIn t = false := by
 obtain rfl : f = 5 := Option.some.inj ((show Tryz.prog.funcNamed "abacus/abacuslaw21.RecordNothing" = some 5 by kernel_rfl).symm.trans hf) |>.symm; obtain rfl : fn = Tryz.f5 := (Option.some.inj (Tryz.func5.symm.trans hfn)).symm; refine ⟨by kernel_rfl, fun j t ht => ?_⟩; rw [Tryz.params5] at ht; have hm : t ∈ [3, 26, 9] := by simpa using Array.mem_of_getElem? ht
 have hall : ([3, 26, 9].all fun u => !Tryz.prog.wantsStandIn u) = true := by kernel_rfl
 exact (show Tryz.prog.wantsStandIn t = false by simpa using List.all_eq_true.1 hall t hm)
end Go.Proofs.YtmbacdkpgfbclaaGreatDoor.recordNothing
