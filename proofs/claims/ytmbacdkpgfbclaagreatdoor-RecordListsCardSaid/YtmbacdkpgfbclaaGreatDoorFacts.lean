/- The closed facts of the program as a whole that every row of the round asks for, each by itself; conditions: none. -/
import Derived.Test.YtmbacdkpgfbclaaGreatDoorCards
import Derived.Test.YtmbacdkpgfbclaaGreatDoorTie
import Derived.Test.YtmbacdkpgfbclaaGreatDoorGW
import Derived.WalkKit
import Derived.ProofKit
import Derived.Below
import Derived.Lay
import Derived.LaidMore
import Derived.Lib.LaidTab
import Derived.SevenTiedAt
import Derived.Stop.Joined
import Derived.JoinedOf
namespace Go.Proofs.YtmbacdkpgfbclaaGreatDoor
open Go.RowKit Go.Shelf Go.Proofs.YtmbacdkpgfbclaaGreatDoorW.PrintWords Go.Proofs.YtmbacdkpgfbclaaGreatDoorW.PrintLast
set_option linter.unusedVariables false

theorem own : ownKnob Tryz.prog.godebug = none := by kernel_rfl
/-- The list, by one name: every row of the round bears it. -/
def theLaid : List (String × DataW Unit) := [("math/bits.deBruijn32tab", Rows.laid_math_bits_deBruijn32tab), ("math/bits.deBruijn64tab", Rows.laid_math_bits_deBruijn64tab), ("internal/strconv.uint64pow10", Rows.laid_internal_strconv_uint64pow10), ("unicode/utf8.acceptRanges", Rows.laid_unicode_utf8_acceptRanges), ("unicode.CaseRanges", Rows.laid_unicode_CaseRanges), ("unicode/utf8.first", Rows.laid_unicode_utf8_first)]

/-- One listed variable's reading. -/
def VarOf (w : World) (n : String) (d : DataW Unit) : Prop :=
 ∃ g t cs fuel p, Tryz.prog.globalNamed n = some g ∧ (Tryz.prog.globals[g]?).map (·.type) = some t ∧ w.var? Tryz.prog n = some cs ∧ DataW.trod (fun _ => ()) Tryz.prog w 0 (fun _ => true) false fuel t cs.toList = some (d, p)
theorem varOf_at {w : World} : ∀ {l : List (String × DataW Unit)} {ps : List MemPlace}, DataW.LaidVars Tryz.prog w l ps → ∀ n d, (n, d) ∈ l → VarOf w n d
 | [], _, _, _, _, hm => by cases hm
 | (n', d') :: r, ps, h, n, d, hm => by
  obtain ⟨g, t, cs, fuel, p, q, h1, h2, h3, h4, h5, _⟩ := h
  rcases List.mem_cons.1 hm with e | e
  ·
   cases e
   exact ⟨g, t, cs, fuel, p, h1, h2, h3, h4⟩
  ·
   exact varOf_at h5 n d e
theorem no_handles : (theLaid.all fun x => x.2.handleName?.isNone) = true := by kernel_rfl
theorem varOf {W : World} (h : laidMetH Tryz.prog theLaid W) {n : String} {d : DataW Unit} (hm : (n, d) ∈ theLaid) : VarOf W n d := by
 rw [MakeChecks.laidMetH_plain _ _ _ no_handles] at h; obtain ⟨_, hv, _⟩ := h; exact varOf_at hv n d hm
theorem tab_of {W : World} {name : String} {k : IntKind} {zs : List Int} {g : Nat} {t e : TypeId} {n : Nat}
  (hg : Tryz.prog.globalNamed name = some g) (hty : (Tryz.prog.globals[g]?).map (·.type) = some t) (ht : Tryz.prog.underlying t = some (.array n e)) (he : Tryz.prog.underlying e = some (.int k)) (hce : Tryz.prog.cellsOf e = 1) (hct : Tryz.prog.cellsOf t = n)
  (h : VarOf W name (Lib.tabData k zs)) : Lib.TabIs Tryz.prog W name k zs := by
 obtain ⟨g', t', cs, fuel, p, hg', ht', hvar, hd⟩ := h; obtain rfl := Option.some.inj (hg.symm.trans hg'); obtain rfl := Option.some.inj (hty.symm.trans ht'); unfold Lib.TabIs; rw [hvar, ← Lib.cells_of_tab ht he hce hct hd]
def deBruijnZ : List Int := List.map (α := Nat) (fun n => (n : Int)) Lib.deBruijn64tab
theorem gw_of_laid {W : World} (h : laidMetH Tryz.prog theLaid W) : GW W := by
 have e1 : Rows.laid_internal_strconv_uint64pow10 = Lib.tabData (H := Unit) .u64 Lib.pow10Tab := by kernel_rfl
 have h1 : VarOf W "internal/strconv.uint64pow10" (Lib.tabData .u64 Lib.pow10Tab) := e1 ▸ varOf h (List.mem_cons_of_mem _ (List.mem_cons_of_mem _ (List.mem_cons_self ..))); have e2 : Rows.laid_math_bits_deBruijn64tab = Lib.tabData (H := Unit) .u8 deBruijnZ := by kernel_rfl
 have h2 : VarOf W "math/bits.deBruijn64tab" (Lib.tabData .u8 deBruijnZ) := e2 ▸ varOf h (List.mem_cons_of_mem _ (List.mem_cons_self ..)); have n2 : Tryz.prog.globalNamed "math/bits.deBruijn64tab" = some 3 := by kernel_rfl
 have t1 : Lib.TabIs Tryz.prog W "internal/strconv.uint64pow10" .u64 Lib.pow10Tab := by
  refine tab_of named_pow10 (t := 295) (e := 24) ?_ (n := 20) ?_ ?_ ?_ ?_ h1 <;> kernel_rfl
 have t2 : Lib.TabIs Tryz.prog W "math/bits.deBruijn64tab" .u8 deBruijnZ := by
  refine tab_of n2 (t := 267) (e := 5) ?_ (n := 64) ?_ ?_ ?_ ?_ h2 <;> kernel_rfl
 refine ⟨t1, fun j hj => ?_⟩; have hl : deBruijnZ.length = Lib.deBruijn64tab.length := List.length_map ..; rw [t2.cell n2 j (by omega)]; have : deBruijnZ.getD j 0 = ((Lib.deBruijn64tab.getD j 0 : Nat) : Int) := by
  unfold deBruijnZ; rw [List.getD, List.getD, List.getElem?_map, List.getElem?_eq_getElem hj]; rfl
 rw [this]
/-- A world that bears the list. -/
noncomputable def laidWorld (os : Os) : World := World.laidAll Tryz.prog os theLaid
theorem laidWorld_met (os : Os) (args : Array Value) : laidMetH Tryz.prog theLaid ((laidWorld os).forCall (fun _ _ => 0) ⟨#[], args, []⟩).memory := by
 rw [MakeChecks.laidMetH_plain _ _ _ no_handles]; exact laidMet_laidAll _ (by kernel_rfl) (by kernel_rfl)
end Go.Proofs.YtmbacdkpgfbclaaGreatDoor
namespace Go.Proofs.YtmbacdkpgfbclaaGreatDoor
open Go.ChangeShapes Go.WideShapes Go.ChangeAt Go.RowKit
theorem whole_laidOut : laidOutB Tryz.prog = true := by kernel_rfl
theorem whole_mapsRowed : mapsRowed Tryz.prog = true := by kernel_rfl
theorem whole_stops : (Tryz.prog.stops == []) = true := by kernel_rfl
theorem whole_knobs : (Tryz.prog.stopKnobs == []) = true := by kernel_rfl
theorem whole_heard : Tryz.prog.stopsHeard = true := by kernel_rfl
theorem whole_plainKeys : (Rows.coreQueuesRow.plainKeys == Tryz.prog.plainKeys) = true := by kernel_rfl
theorem whole_enters : Tryz.prog.mayEnter = true := by kernel_rfl
theorem whole_lifted : (Rows.coreQueuesRow.lifted == Tryz.prog.liftsFinal) = true := by kernel_rfl
theorem whole_make : (Tryz.prog.make == some Rows.coreQueuesRow.make) = true := by kernel_rfl
theorem true_and' {a b : Bool} (h : a = true) (h' : b = true) : (a && b) = true := by rw [h, h']; rfl
end Go.Proofs.YtmbacdkpgfbclaaGreatDoor
