/- value's functions that go through an interface, walked; conditions: none. -/
import Derived.Test.YtoanmnhkhookfaaGreatDoorProg
import Derived.WalkKit
import Derived.WalkSpells
import Derived.WalkLawsBesides
import Derived.Outline
import Derived.Laws.Rows
namespace Go.Proofs.YtoanmnhkhookfaaGreatDoor
open Go.RowKit
set_option linter.unusedVariables false
set_option linter.unusedSimpArgs false

/-- What Plain makes of a value. -/
def plainOf (k x : Int) (s : ByteArray) : Int × Int × ByteArray := if k = 1 then (1, x, ⟨#[]⟩) else if k = 2 then (2, 0, s) else if k = 3 then (3, x, s) else (0, 0, ⟨#[]⟩)
/-- A value, as Go has it. -/
abbrev vAgg (k x : Int) (s : ByteArray) : Value := .agg #[.int .i64 k, .int .u64 x, .string s]
theorem bcell {W w1 : World} (hb : Below W.heap.size W w1) : (∀ b o, b < W.heap.size → w1.cell? ⟨b, o, none⟩ = W.cell? ⟨b, o, none⟩) ∧ (∀ b o, b < W.heap.size → w1.frozen? ⟨b, o, none⟩ = W.frozen? ⟨b, o, none⟩) :=
  ⟨fun b o h => hb.cell (p := ⟨b, o, none⟩) h, fun b o h => hb.frozen (p := ⟨b, o, none⟩) h⟩
theorem new2 (w : World) (a b : Obj) : ((w.alloc a).alloc b).heap[w.heap.size + 1]? = some b := by
  have h := heap_alloc_new (w.alloc a) b
  simpa using h
theorem below_lower {W w1 w2 : World} {o : Obj} (h : Below W.heap.size W w1) (h2 : Below w1.heap.size w1 w2) : Below W.heap.size W w2 := h.trans (h2.mono h.size)

set_option maxRecDepth 100000 in
set_option maxHeartbeats 1000000 in
theorem inside_1 (x : Int) (s : ByteArray) (w : World) : Calls Tryz.prog 64 #[vAgg 1 x s] w fun e w' => e = .returned (.iface 130 (.agg #[.int .u64 x])) ∧ Below w.heap.size w w' := by
  go_enter Tryz.func64, Tryz.ntmps64
  go_wp2
  go_ret
  exact ⟨rfl, (Below.refl _ _).alloc (Nat.le_refl _) _⟩

set_option maxRecDepth 100000 in
set_option maxHeartbeats 1000000 in
theorem inside_2 (x : Int) (s : ByteArray) (w : World) : Calls Tryz.prog 64 #[vAgg 2 x s] w fun e w' => e = .returned (.iface 95 (.agg #[.string s])) ∧ Below w.heap.size w w' := by
  go_enter Tryz.func64, Tryz.ntmps64
  go_wp2
  go_ret
  exact ⟨rfl, (Below.refl _ _).alloc (Nat.le_refl _) _⟩

set_option maxRecDepth 100000 in
set_option maxHeartbeats 1000000 in
theorem inside_3 (x : Int) (s : ByteArray) (w : World) : Calls Tryz.prog 64 #[vAgg 3 x s] w fun e w' => e = .returned (.iface 125 (.agg #[.int .u64 x, .string s])) ∧ Below w.heap.size w w' := by
  go_enter Tryz.func64, Tryz.ntmps64
  go_wp2
  go_ret
  exact ⟨rfl, (Below.refl _ _).alloc (Nat.le_refl _) _⟩

set_option maxRecDepth 100000 in
set_option maxHeartbeats 1000000 in
theorem inside_0 (k x : Int) (s : ByteArray) (w : World) (h1 : (k == 1) = false) (h2 : (k == 2) = false) (h3 : (k == 3) = false) : Calls Tryz.prog 64 #[vAgg k x s] w fun e w' => e = .returned (.iface 136 (.agg #[])) ∧ Below w.heap.size w w' := by
  go_enter Tryz.func64, Tryz.ntmps64
  go_wp2
  go_ret
  exact ⟨rfl, (Below.refl _ _).alloc (Nat.le_refl _) _⟩

set_option maxRecDepth 100000 in
set_option maxHeartbeats 1000000 in
theorem plain_1 (x : Int) (w : World) : Calls Tryz.prog 249 #[.agg #[.int .u64 x]] w fun e w' => e = .returned (vAgg 1 x ⟨#[]⟩) ∧ Below w.heap.size w w' := by
  go_enter Tryz.func249, Tryz.ntmps249
  go_wp2
  refine bodyPost_ret (results_cell_row rfl _ _ (w.heap.size + 1) 29 #[.int .i64 1, .int .u64 x, .string ⟨#[]⟩] (0, 0) _ rfl (new2 w _ _) Tryz.underlying29 rfl (by kernel_rfl)) rfl ?_
  exact ⟨rfl, by first | exact ((Below.refl _ _).alloc (Nat.le_refl _) _).alloc (by simp) _ | exact (Below.refl _ _).alloc (Nat.le_refl _) _⟩

set_option maxRecDepth 100000 in
set_option maxHeartbeats 1000000 in
theorem plain_2 (s : ByteArray) (w : World) : Calls Tryz.prog 79 #[.agg #[.string s]] w fun e w' => e = .returned (vAgg 2 0 s) ∧ Below w.heap.size w w' := by
  go_enter Tryz.func79, Tryz.ntmps79
  go_wp2
  refine bodyPost_ret (results_cell_row rfl _ _ (w.heap.size + 1) 29 #[.int .i64 2, .int .u64 0, .string s] (0, 0) _ rfl (new2 w _ _) Tryz.underlying29 rfl (by kernel_rfl)) rfl ?_
  exact ⟨rfl, by first | exact ((Below.refl _ _).alloc (Nat.le_refl _) _).alloc (by simp) _ | exact (Below.refl _ _).alloc (Nat.le_refl _) _⟩

set_option maxRecDepth 100000 in
set_option maxHeartbeats 1000000 in
theorem plain_3 (x : Int) (s : ByteArray) (w : World) : Calls Tryz.prog 81 #[.agg #[.int .u64 x, .string s]] w fun e w' => e = .returned (vAgg 3 x s) ∧ Below w.heap.size w w' := by
  go_enter Tryz.func81, Tryz.ntmps81
  go_wp2
  refine bodyPost_ret (results_cell_row rfl _ _ (w.heap.size + 1) 29 #[.int .i64 3, .int .u64 x, .string s] (0, 0) _ rfl (new2 w _ _) Tryz.underlying29 rfl (by kernel_rfl)) rfl ?_
  exact ⟨rfl, by first | exact ((Below.refl _ _).alloc (Nat.le_refl _) _).alloc (by simp) _ | exact (Below.refl _ _).alloc (Nat.le_refl _) _⟩

set_option maxRecDepth 100000 in
set_option maxHeartbeats 1000000 in
theorem plain_0 (w : World) : Calls Tryz.prog 250 #[.agg #[]] w fun e w' => e = .returned (vAgg 0 0 ⟨#[]⟩) ∧ Below w.heap.size w w' := by
  go_enter Tryz.func250, Tryz.ntmps250
  go_wp2
  refine bodyPost_ret (results_cell_row rfl _ _ (w.heap.size + 1) 29 #[.int .i64 0, .int .u64 0, .string ⟨#[]⟩] (0, 0) _ rfl (new2 w _ _) Tryz.underlying29 rfl (by kernel_rfl)) rfl ?_
  exact ⟨rfl, by first | exact ((Below.refl _ _).alloc (Nat.le_refl _) _).alloc (by simp) _ | exact (Below.refl _ _).alloc (Nat.le_refl _) _⟩
end Go.Proofs.YtoanmnhkhookfaaGreatDoor
