/- A value of the interface, opened and shut, as an argument; conditions: none. -/
import Derived.Test.YtoanmnhkhookfaaGreatDoorLaid
import Derived.Lib.SmallJoins
import Derived.Deep.Slices
import Derived.OpenShut
namespace Go.Proofs.YtoanmnhkhookfaaGreatDoor
open Go.ChangeShapes Go.WideShapes Go.ChangeAt Go.RowKit Go.Lib Go.Joins
set_option maxRecDepth 100000
variable {H : Type} {enc : TypeId × Value → H}
theorem open_val {W : World} {b0 base : Nat} {r : Reach} {sp : Nat → Bool} {held : Bool} {v : Value} {d : DataW H} {p : List MemPlace} (hv : Value.okWide Tryz.prog W r b0 29 v) (h : DataW.Trod enc Tryz.prog W base sp held 29 v d p) :
    ∃ (a0 a1 : Int) (a2 : ByteArray), v = .agg #[.int .i64 a0, .int .u64 a1, .string a2] ∧ d = .agg [.lit (.int .i64 a0), .lit (.int .u64 a1), .lit (.string a2.data.toList)] ∧ p = [] ∧ (Lit.int .i64 a0).wf = true ∧ (Lit.int .u64 a1).wf = true ∧ a2.size ≤ maxLen := by
  obtain ⟨v0, v1, v2, y0, y1, y2, n, rfl, rfl, rfl, h0, h1, h2⟩ := open_agg3 Tryz.underlying29 (by kernel_rfl) (by kernel_rfl) hv h
  obtain ⟨a0, e0, rfl, w0⟩ := DataW.trod_int Tryz.underlying3 h0
  obtain ⟨a1, e1, rfl, w1⟩ := DataW.trod_int Tryz.underlying22 h1
  obtain ⟨a2, e2, rfl, w2⟩ := DataW.trod_string Tryz.underlying9 h2
  cases e0
  cases e1
  cases e2
  exact ⟨a0, a1, a2, rfl, rfl, rfl, w0, w1, w2⟩
theorem shut_val {W : World} {base : Nat} {sp : Nat → Bool} {held : Bool} {a0 a1 : Int} {a2 : ByteArray} (w0 : (Lit.int .i64 a0).wf = true) (w1 : (Lit.int .u64 a1).wf = true) (w2 : a2.size ≤ maxLen) :
    DataW.Trod enc Tryz.prog W base sp held 29 (.agg #[.int .i64 a0, .int .u64 a1, .string a2]) (.agg [.lit (.int .i64 a0), .lit (.int .u64 a1), .lit (.string a2.data.toList)]) [] :=
  shut_agg3 (y0 := (_, [])) (y1 := (_, [])) (y2 := (_, [])) Tryz.underlying29 (by kernel_rfl) (by kernel_rfl) ⟨1, trod_int_mk 0 Tryz.underlying3 w0⟩ ⟨1, trod_int_mk 0 Tryz.underlying22 w1⟩ (Go.Deep.shut_string_cell Tryz.underlying9 w2)
theorem sized_val {ts : List TypeId} {ds : List (DataW H)} (h : (DataW.weightsEach Tryz.prog ts ds).all (· ≤ reachBytes) = true) {j : Nat} {a0 a1 : Int} {a2 : ByteArray} (ht : ts[j]? = some 29) (hd : ds[j]? = some (.agg [.lit (.int .i64 a0), .lit (.int .u64 a1), .lit (.string a2.data.toList)])) : a2.size ≤ 140737488351232 := by
  have z := List.all_eq_true.1 h _ (DataW.weights_mem_each ht hd a2.data.toList.length (by simp [DataW.weights, DataW.weightsEach, Tryz.underlying29]))
  rw [Array.length_toList] at z
  exact of_decide_eq_true z
end Go.Proofs.YtoanmnhkhookfaaGreatDoor
