/- value's functions that go through an interface, walked: Plain, Numeric, ToNum, ToStr; conditions: none. -/
import Derived.Test.YtmbacdkpgfbclaaGreatDoorProg
import Derived.WalkKit
import Derived.WalkSpells
import Derived.WalkLawsBesides
import Derived.Outline
import Derived.Laws.Rows
import Derived.Test.YtmbacdkpgfbclaaGreatDoorWWords
import Derived.Lib.Hide
namespace Go.Proofs.YtmbacdkpgfbclaaGreatDoor
open Go.RowKit
set_option linter.unusedVariables false
set_option linter.unusedSimpArgs false

/-- What Plain makes of a value. -/
def plainOf (k x : Int) (s : ByteArray) : Int × Int × ByteArray := if k = 1 then (1, x, ⟨#[]⟩) else if k = 2 then (2, 0, s) else if k = 3 then (3, x, s) else (0, 0, ⟨#[]⟩)
/-- A value, as Go has it. -/
abbrev vAgg (k x : Int) (s : ByteArray) : Value := .agg #[.int .i64 k, .int .u64 x, .string s]
theorem new2 (w : World) (a b : Obj) : ((w.alloc a).alloc b).heap[w.heap.size + 1]? = some b := by
 have h := heap_alloc_new (w.alloc a) b; simpa using h
set_option maxRecDepth 100000 in
set_option maxHeartbeats 1000000 in
theorem inside_1 (x : Int) (s : ByteArray) (w : World) : Calls Tryz.prog 84 #[vAgg 1 x s] w fun e w' => e = .returned (.iface 133 (.agg #[.int .u64 x])) ∧ Below w.heap.size w w' := by
 go_enter Tryz.func84, Tryz.ntmps84; go_wp2; go_ret; exact ⟨rfl, (Below.refl _ _).alloc (Nat.le_refl _) _⟩

set_option maxRecDepth 100000 in
set_option maxHeartbeats 1000000 in
theorem inside_2 (x : Int) (s : ByteArray) (w : World) : Calls Tryz.prog 84 #[vAgg 2 x s] w fun e w' => e = .returned (.iface 126 (.agg #[.string s])) ∧ Below w.heap.size w w' := by
 go_enter Tryz.func84, Tryz.ntmps84; go_wp2; go_ret; exact ⟨rfl, (Below.refl _ _).alloc (Nat.le_refl _) _⟩

set_option maxRecDepth 100000 in
set_option maxHeartbeats 1000000 in
theorem inside_3 (x : Int) (s : ByteArray) (w : World) : Calls Tryz.prog 84 #[vAgg 3 x s] w fun e w' => e = .returned (.iface 131 (.agg #[.int .u64 x, .string s])) ∧ Below w.heap.size w w' := by
 go_enter Tryz.func84, Tryz.ntmps84; go_wp2; go_ret; exact ⟨rfl, (Below.refl _ _).alloc (Nat.le_refl _) _⟩

set_option maxRecDepth 100000 in
set_option maxHeartbeats 1000000 in
theorem inside_0 (k x : Int) (s : ByteArray) (w : World) (h1 : (k == 1) = false) (h2 : (k == 2) = false) (h3 : (k == 3) = false) : Calls Tryz.prog 84 #[vAgg k x s] w fun e w' => e = .returned (.iface 156 (.agg #[])) ∧ Below w.heap.size w w' := by
 go_enter Tryz.func84, Tryz.ntmps84; go_wp2; go_ret; exact ⟨rfl, (Below.refl _ _).alloc (Nat.le_refl _) _⟩

set_option maxRecDepth 100000 in
set_option maxHeartbeats 1000000 in
theorem plain_1 (x : Int) (w : World) : Calls Tryz.prog 272 #[.agg #[.int .u64 x]] w fun e w' => e = .returned (vAgg 1 x ⟨#[]⟩) ∧ Below w.heap.size w w' := by
 go_enter Tryz.func272, Tryz.ntmps272; go_wp2; refine bodyPost_ret (results_cell_row rfl _ _ (w.heap.size + 1) 26 #[.int .i64 1, .int .u64 x, .string ⟨#[]⟩] (0, 0) _ rfl (new2 w _ _) Tryz.underlying26 rfl (by kernel_rfl)) rfl ?_; exact ⟨rfl, by first | exact ((Below.refl _ _).alloc (Nat.le_refl _) _).alloc (by simp) _ | exact (Below.refl _ _).alloc (Nat.le_refl _) _⟩

set_option maxRecDepth 100000 in
set_option maxHeartbeats 1000000 in
theorem plain_2 (s : ByteArray) (w : World) : Calls Tryz.prog 86 #[.agg #[.string s]] w fun e w' => e = .returned (vAgg 2 0 s) ∧ Below w.heap.size w w' := by
 go_enter Tryz.func86, Tryz.ntmps86; go_wp2; refine bodyPost_ret (results_cell_row rfl _ _ (w.heap.size + 1) 26 #[.int .i64 2, .int .u64 0, .string s] (0, 0) _ rfl (new2 w _ _) Tryz.underlying26 rfl (by kernel_rfl)) rfl ?_; exact ⟨rfl, by first | exact ((Below.refl _ _).alloc (Nat.le_refl _) _).alloc (by simp) _ | exact (Below.refl _ _).alloc (Nat.le_refl _) _⟩

set_option maxRecDepth 100000 in
set_option maxHeartbeats 1000000 in
theorem plain_3 (x : Int) (s : ByteArray) (w : World) : Calls Tryz.prog 89 #[.agg #[.int .u64 x, .string s]] w fun e w' => e = .returned (vAgg 3 x s) ∧ Below w.heap.size w w' := by
 go_enter Tryz.func89, Tryz.ntmps89; go_wp2; refine bodyPost_ret (results_cell_row rfl _ _ (w.heap.size + 1) 26 #[.int .i64 3, .int .u64 x, .string s] (0, 0) _ rfl (new2 w _ _) Tryz.underlying26 rfl (by kernel_rfl)) rfl ?_; exact ⟨rfl, by first | exact ((Below.refl _ _).alloc (Nat.le_refl _) _).alloc (by simp) _ | exact (Below.refl _ _).alloc (Nat.le_refl _) _⟩

set_option maxRecDepth 100000 in
set_option maxHeartbeats 1000000 in
theorem plain_0 (w : World) : Calls Tryz.prog 273 #[.agg #[]] w fun e w' => e = .returned (vAgg 0 0 ⟨#[]⟩) ∧ Below w.heap.size w w' := by
 go_enter Tryz.func273, Tryz.ntmps273; go_wp2; refine bodyPost_ret (results_cell_row rfl _ _ (w.heap.size + 1) 26 #[.int .i64 0, .int .u64 0, .string ⟨#[]⟩] (0, 0) _ rfl (new2 w _ _) Tryz.underlying26 rfl (by kernel_rfl)) rfl ?_; exact ⟨rfl, by first | exact ((Below.refl _ _).alloc (Nat.le_refl _) _).alloc (by simp) _ | exact (Below.refl _ _).alloc (Nat.le_refl _) _⟩
end Go.Proofs.YtmbacdkpgfbclaaGreatDoor
namespace Go.Proofs.YtmbacdkpgfbclaaGreatDoor
open Go.RowKit Go.Proofs.YtmbacdkpgfbclaaGreatDoorW.PrintWords
set_option linter.unusedVariables false
set_option linter.unusedSimpArgs false

theorem valBox {w : World} {g t : Nat} {a b c : Value} (h : w.heap[g]? = some (.cells #[a, b, c] t (0, 0))) (x y z : Value) :
  (((w.setCell ⟨g, 0, none⟩ x).setCell ⟨g, 1, none⟩ y).setCell ⟨g, 2, none⟩ z).heap[g]? = some (.cells #[x, y, z] t (0, 0)) :=
 blk_put (cs := #[x, y, c]) (blk_put (cs := #[x, b, c]) (blk_put h 0 _ rfl) 1 _ rfl) 2 _ rfl
theorem valBelow {w w2 : World} {g : Nat} (hb : Below w.heap.size w w2) (hg : w.heap.size ≤ g) (x y z : Value) :
  Below w.heap.size w (((w2.setCell ⟨g, 0, none⟩ x).setCell ⟨g, 1, none⟩ y).setCell ⟨g, 2, none⟩ z) := below_set (below_set (below_set hb hg) hg) hg
theorem below_two {w w1 : World} {a b : Obj} (h : Below ((w.alloc a).alloc b).heap.size ((w.alloc a).alloc b) w1) : Below w.heap.size w w1 :=
 (below_alloc (below_alloc (Below.refl _ _) _) _).trans (h.mono (by simp; omega))
theorem below_one {w w1 : World} {a : Obj} (h : Below (w.alloc a).heap.size (w.alloc a) w1) : Below w.heap.size w w1 :=
 (below_alloc (Below.refl _ _) _).trans (h.mono (by simp))
set_option maxRecDepth 100000 in
set_option maxHeartbeats 1000000 in
theorem Plain_1 (x : Int) (s : ByteArray) (w : World) : Calls Tryz.prog 47 #[vAgg 1 x s] w fun e w' => e = .returned (vAgg 1 x ⟨#[]⟩) ∧ Below w.heap.size w w' := by
 have hm : ∀ w : World, (method 477 133 (.agg #[.int .u64 x]) "abacus/value.plain").run Tryz.prog w = .ok (272, .agg #[.int .u64 x]) w := fun _ => by kernel_rfl
 go_enter Tryz.func47, Tryz.ntmps47; go_wp2_with fail; refine (inside_1 x s _).mono ?_; rintro e w1 ⟨rfl, hb⟩; have hz : w.heap.size + 1 < w1.heap.size := by have := hb.size; simp at this; omega
 have hbk : w1.heap[w.heap.size + 1]? = some (.cells #[.int .i64 0, .int .u64 0, .string ⟨#[]⟩] 26 (0, 0)) := (hb.block _ (by simp)).trans (new2 w _ _); have HB := Lib.hid hb; go_wp2_with fail; refine (plain_1 x _).mono ?_; rintro e w2 ⟨rfl, hb2⟩; have hbk2 := (hb2.block _ hz).trans hbk; have hz2 : w.heap.size + 1 < w2.heap.size := Nat.lt_of_lt_of_le hz hb2.size; have hfz : ∀ j, w2.frozen? ⟨w.heap.size + 1, j, none⟩ = false := fun j => by simp [World.frozen?, hbk2]
 have hf0 := hfz 0; have hf1 := hfz 1; have hf2 := hfz 2; have hc0 : w2.cell? ⟨w.heap.size + 1, 0, none⟩ = some (.int .i64 0) := by rw [cell_of_row _ _ 0 _ _ _ hbk2]; rfl
 have hc1 : w2.cell? ⟨w.heap.size + 1, 1, none⟩ = some (.int .u64 0) := by rw [cell_of_row _ _ 1 _ _ _ hbk2]; rfl
 have hc2 : w2.cell? ⟨w.heap.size + 1, 2, none⟩ = some (.string ⟨#[]⟩) := by rw [cell_of_row _ _ 2 _ _ _ hbk2]; rfl
 have HBK := Lib.hid hbk2; clear hbk hbk2 hb hz hfz; go_wp2_with fail; refine bodyPost_ret (results_cell_row rfl _ _ (w.heap.size + 1) 26 #[.int .i64 1, .int .u64 x, .string ⟨#[]⟩] (0, 0) _ rfl (valBox HBK.out _ _ _) Tryz.underlying26 rfl (by kernel_rfl)) rfl ?_; exact ⟨rfl, valBelow (below_then (below_two HB.out) (below_two HB.out).size hb2) (Nat.le_succ _) _ _ _⟩
set_option maxRecDepth 100000 in
set_option maxHeartbeats 1000000 in
theorem Plain_2 (x : Int) (s : ByteArray) (w : World) : Calls Tryz.prog 47 #[vAgg 2 x s] w fun e w' => e = .returned (vAgg 2 0 s) ∧ Below w.heap.size w w' := by
 have hm : ∀ w : World, (method 477 126 (.agg #[.string s]) "abacus/value.plain").run Tryz.prog w = .ok (86, .agg #[.string s]) w := fun _ => by kernel_rfl
 go_enter Tryz.func47, Tryz.ntmps47; go_wp2_with fail; refine (inside_2 x s _).mono ?_; rintro e w1 ⟨rfl, hb⟩; have hz : w.heap.size + 1 < w1.heap.size := by have := hb.size; simp at this; omega
 have hbk : w1.heap[w.heap.size + 1]? = some (.cells #[.int .i64 0, .int .u64 0, .string ⟨#[]⟩] 26 (0, 0)) := (hb.block _ (by simp)).trans (new2 w _ _); have HB := Lib.hid hb; go_wp2_with fail; refine (plain_2 s _).mono ?_; rintro e w2 ⟨rfl, hb2⟩; have hbk2 := (hb2.block _ hz).trans hbk; have hz2 : w.heap.size + 1 < w2.heap.size := Nat.lt_of_lt_of_le hz hb2.size; have hfz : ∀ j, w2.frozen? ⟨w.heap.size + 1, j, none⟩ = false := fun j => by simp [World.frozen?, hbk2]
 have hf0 := hfz 0; have hf1 := hfz 1; have hf2 := hfz 2; have hc0 : w2.cell? ⟨w.heap.size + 1, 0, none⟩ = some (.int .i64 0) := by rw [cell_of_row _ _ 0 _ _ _ hbk2]; rfl
 have hc1 : w2.cell? ⟨w.heap.size + 1, 1, none⟩ = some (.int .u64 0) := by rw [cell_of_row _ _ 1 _ _ _ hbk2]; rfl
 have hc2 : w2.cell? ⟨w.heap.size + 1, 2, none⟩ = some (.string ⟨#[]⟩) := by rw [cell_of_row _ _ 2 _ _ _ hbk2]; rfl
 have HBK := Lib.hid hbk2; clear hbk hbk2 hb hz hfz; go_wp2_with fail; refine bodyPost_ret (results_cell_row rfl _ _ (w.heap.size + 1) 26 #[.int .i64 2, .int .u64 0, .string s] (0, 0) _ rfl (valBox HBK.out _ _ _) Tryz.underlying26 rfl (by kernel_rfl)) rfl ?_; exact ⟨rfl, valBelow (below_then (below_two HB.out) (below_two HB.out).size hb2) (Nat.le_succ _) _ _ _⟩
set_option maxRecDepth 100000 in
set_option maxHeartbeats 1000000 in
theorem Plain_3 (x : Int) (s : ByteArray) (w : World) : Calls Tryz.prog 47 #[vAgg 3 x s] w fun e w' => e = .returned (vAgg 3 x s) ∧ Below w.heap.size w w' := by
 have hm : ∀ w : World, (method 477 131 (.agg #[.int .u64 x, .string s]) "abacus/value.plain").run Tryz.prog w = .ok (89, .agg #[.int .u64 x, .string s]) w := fun _ => by kernel_rfl
 go_enter Tryz.func47, Tryz.ntmps47; go_wp2_with fail; refine (inside_3 x s _).mono ?_; rintro e w1 ⟨rfl, hb⟩; have hz : w.heap.size + 1 < w1.heap.size := by have := hb.size; simp at this; omega
 have hbk : w1.heap[w.heap.size + 1]? = some (.cells #[.int .i64 0, .int .u64 0, .string ⟨#[]⟩] 26 (0, 0)) := (hb.block _ (by simp)).trans (new2 w _ _); have HB := Lib.hid hb; go_wp2_with fail; refine (plain_3 x s _).mono ?_; rintro e w2 ⟨rfl, hb2⟩; have hbk2 := (hb2.block _ hz).trans hbk; have hz2 : w.heap.size + 1 < w2.heap.size := Nat.lt_of_lt_of_le hz hb2.size; have hfz : ∀ j, w2.frozen? ⟨w.heap.size + 1, j, none⟩ = false := fun j => by simp [World.frozen?, hbk2]
 have hf0 := hfz 0; have hf1 := hfz 1; have hf2 := hfz 2; have hc0 : w2.cell? ⟨w.heap.size + 1, 0, none⟩ = some (.int .i64 0) := by rw [cell_of_row _ _ 0 _ _ _ hbk2]; rfl
 have hc1 : w2.cell? ⟨w.heap.size + 1, 1, none⟩ = some (.int .u64 0) := by rw [cell_of_row _ _ 1 _ _ _ hbk2]; rfl
 have hc2 : w2.cell? ⟨w.heap.size + 1, 2, none⟩ = some (.string ⟨#[]⟩) := by rw [cell_of_row _ _ 2 _ _ _ hbk2]; rfl
 have HBK := Lib.hid hbk2; clear hbk hbk2 hb hz hfz; go_wp2_with fail; refine bodyPost_ret (results_cell_row rfl _ _ (w.heap.size + 1) 26 #[.int .i64 3, .int .u64 x, .string s] (0, 0) _ rfl (valBox HBK.out _ _ _) Tryz.underlying26 rfl (by kernel_rfl)) rfl ?_; exact ⟨rfl, valBelow (below_then (below_two HB.out) (below_two HB.out).size hb2) (Nat.le_succ _) _ _ _⟩
set_option maxRecDepth 100000 in
set_option maxHeartbeats 1000000 in
theorem Plain_0 (k x : Int) (s : ByteArray) (w : World) (h1 : (k == 1) = false) (h2 : (k == 2) = false) (h3 : (k == 3) = false) : Calls Tryz.prog 47 #[vAgg k x s] w fun e w' => e = .returned (vAgg 0 0 ⟨#[]⟩) ∧ Below w.heap.size w w' := by
 have hm : ∀ w : World, (method 477 156 (.agg #[]) "abacus/value.plain").run Tryz.prog w = .ok (273, .agg #[]) w := fun _ => by kernel_rfl
 go_enter Tryz.func47, Tryz.ntmps47; go_wp2_with fail; refine (inside_0 k x s _ h1 h2 h3).mono ?_; rintro e w1 ⟨rfl, hb⟩; have hz : w.heap.size + 1 < w1.heap.size := by have := hb.size; simp at this; omega
 have hbk : w1.heap[w.heap.size + 1]? = some (.cells #[.int .i64 0, .int .u64 0, .string ⟨#[]⟩] 26 (0, 0)) := (hb.block _ (by simp)).trans (new2 w _ _); have HB := Lib.hid hb; go_wp2_with fail; refine (plain_0  _).mono ?_; rintro e w2 ⟨rfl, hb2⟩; have hbk2 := (hb2.block _ hz).trans hbk; have hz2 : w.heap.size + 1 < w2.heap.size := Nat.lt_of_lt_of_le hz hb2.size; have hfz : ∀ j, w2.frozen? ⟨w.heap.size + 1, j, none⟩ = false := fun j => by simp [World.frozen?, hbk2]
 have hf0 := hfz 0; have hf1 := hfz 1; have hf2 := hfz 2; have hc0 : w2.cell? ⟨w.heap.size + 1, 0, none⟩ = some (.int .i64 0) := by rw [cell_of_row _ _ 0 _ _ _ hbk2]; rfl
 have hc1 : w2.cell? ⟨w.heap.size + 1, 1, none⟩ = some (.int .u64 0) := by rw [cell_of_row _ _ 1 _ _ _ hbk2]; rfl
 have hc2 : w2.cell? ⟨w.heap.size + 1, 2, none⟩ = some (.string ⟨#[]⟩) := by rw [cell_of_row _ _ 2 _ _ _ hbk2]; rfl
 have HBK := Lib.hid hbk2; clear hbk hbk2 hb hz hfz; go_wp2_with fail; refine bodyPost_ret (results_cell_row rfl _ _ (w.heap.size + 1) 26 #[.int .i64 0, .int .u64 0, .string ⟨#[]⟩] (0, 0) _ rfl (valBox HBK.out _ _ _) Tryz.underlying26 rfl (by kernel_rfl)) rfl ?_; exact ⟨rfl, valBelow (below_then (below_two HB.out) (below_two HB.out).size hb2) (Nat.le_succ _) _ _ _⟩
set_option maxRecDepth 100000 in
set_option maxHeartbeats 1000000 in
theorem Numeric_0 (k x : Int) (s : ByteArray) (w : World) (h1 : (k == 1) = false) (h2 : (k == 2) = false) (h3 : (k == 3) = false) : Calls Tryz.prog 62 #[vAgg k x s] w fun e w' => e = .returned (.bool true) ∧ Below w.heap.size w w' := by
 have ta0 : ∀ w : World, (Instr.typeAssert (.iface 156 (.agg #[])) 121 126 true).run Tryz.prog w = .ok (.tuple #[.agg #[.string ⟨#[]⟩], .bool false]) w := fun _ => by kernel_rfl
 go_enter Tryz.func62, Tryz.ntmps62; go_wp2_with fail; refine (inside_0 k x s _ h1 h2 h3).mono ?_; rintro e w1 ⟨rfl, hb⟩; have HB := Lib.hid hb; clear hb; go_wp2_with fail; go_ret; exact ⟨rfl, by repeat (first | exact below_one HB.out | apply below_alloc | exact below_one HB.out)⟩
set_option maxRecDepth 100000 in
set_option maxHeartbeats 1000000 in
theorem Numeric_1 (x : Int) (s : ByteArray) (w : World) : Calls Tryz.prog 62 #[vAgg 1 x s] w fun e w' => e = .returned (.bool true) ∧ Below w.heap.size w w' := by
 have ta0 : ∀ w : World, (Instr.typeAssert (.iface 133 (.agg #[.int .u64 x])) 121 126 true).run Tryz.prog w = .ok (.tuple #[.agg #[.string ⟨#[]⟩], .bool false]) w := fun _ => by kernel_rfl
 go_enter Tryz.func62, Tryz.ntmps62; go_wp2_with fail; refine (inside_1 x s _).mono ?_; rintro e w1 ⟨rfl, hb⟩; have HB := Lib.hid hb; clear hb; go_wp2_with fail; go_ret; exact ⟨rfl, by repeat (first | exact below_one HB.out | apply below_alloc | exact below_one HB.out)⟩
set_option maxRecDepth 100000 in
set_option maxHeartbeats 1000000 in
theorem Numeric_2 (x : Int) (s : ByteArray) (w : World) : Calls Tryz.prog 62 #[vAgg 2 x s] w fun e w' => e = .returned (.bool false) ∧ Below w.heap.size w w' := by
 have ta0 : ∀ w : World, (Instr.typeAssert (.iface 126 (.agg #[.string s])) 121 126 true).run Tryz.prog w = .ok (.tuple #[.agg #[.string s], .bool true]) w := fun _ => by kernel_rfl
 go_enter Tryz.func62, Tryz.ntmps62; go_wp2_with fail; refine (inside_2 x s _).mono ?_; rintro e w1 ⟨rfl, hb⟩; have HB := Lib.hid hb; clear hb; go_wp2_with fail; go_ret; exact ⟨rfl, by repeat (first | exact below_one HB.out | apply below_alloc | exact below_one HB.out)⟩
set_option maxRecDepth 100000 in
set_option maxHeartbeats 1000000 in
theorem Numeric_3 (x : Int) (s : ByteArray) (w : World) : Calls Tryz.prog 62 #[vAgg 3 x s] w fun e w' => e = .returned (.bool true) ∧ Below w.heap.size w w' := by
 have ta0 : ∀ w : World, (Instr.typeAssert (.iface 131 (.agg #[.int .u64 x, .string s])) 121 126 true).run Tryz.prog w = .ok (.tuple #[.agg #[.string ⟨#[]⟩], .bool false]) w := fun _ => by kernel_rfl
 go_enter Tryz.func62, Tryz.ntmps62; go_wp2_with fail; refine (inside_3 x s _).mono ?_; rintro e w1 ⟨rfl, hb⟩; have HB := Lib.hid hb; clear hb; go_wp2_with fail; go_ret; exact ⟨rfl, by repeat (first | exact below_one HB.out | apply below_alloc | exact below_one HB.out)⟩
set_option maxRecDepth 100000 in
set_option maxHeartbeats 1000000 in
theorem ToNum_0 (k x : Int) (s : ByteArray) (w : World) (h1 : (k == 1) = false) (h2 : (k == 2) = false) (h3 : (k == 3) = false) : Calls Tryz.prog 56 #[vAgg k x s] w fun e w' => e = .returned (.int .u64 0) ∧ Below w.heap.size w w' := by
 have ta0 : ∀ w : World, (Instr.typeAssert (.iface 156 (.agg #[])) 121 133 true).run Tryz.prog w = .ok (.tuple #[.agg #[.int .u64 0], .bool false]) w := fun _ => by kernel_rfl
 have ta1 : ∀ w : World, (Instr.typeAssert (.iface 156 (.agg #[])) 121 131 true).run Tryz.prog w = .ok (.tuple #[.agg #[.int .u64 0, .string ⟨#[]⟩], .bool false]) w := fun _ => by kernel_rfl
 have ta2 : ∀ w : World, (Instr.typeAssert (.iface 156 (.agg #[])) 121 126 true).run Tryz.prog w = .ok (.tuple #[.agg #[.string ⟨#[]⟩], .bool false]) w := fun _ => by kernel_rfl
 go_enter Tryz.func56, Tryz.ntmps56; go_wp2_with fail; refine (inside_0 k x s _ h1 h2 h3).mono ?_; rintro e w1 ⟨rfl, hb⟩; have HB := Lib.hid hb; clear hb; go_wp2_with fail; go_ret; exact ⟨rfl, by repeat (first | exact below_one HB.out | apply below_alloc | exact below_one HB.out)⟩
set_option maxRecDepth 100000 in
set_option maxHeartbeats 1000000 in
theorem ToNum_1 (x : Int) (s : ByteArray) (w : World) : Calls Tryz.prog 56 #[vAgg 1 x s] w fun e w' => e = .returned (.int .u64 x) ∧ Below w.heap.size w w' := by
 have ta0 : ∀ w : World, (Instr.typeAssert (.iface 133 (.agg #[.int .u64 x])) 121 133 true).run Tryz.prog w = .ok (.tuple #[.agg #[.int .u64 x], .bool true]) w := fun _ => by kernel_rfl
 go_enter Tryz.func56, Tryz.ntmps56; go_wp2_with fail; refine (inside_1 x s _).mono ?_; rintro e w1 ⟨rfl, hb⟩; have HB := Lib.hid hb; clear hb; go_wp2_with fail; go_ret; exact ⟨rfl, by repeat (first | exact below_one HB.out | apply below_alloc | exact below_one HB.out)⟩
set_option maxRecDepth 100000 in
set_option maxHeartbeats 1000000 in
theorem ToNum_3 (x : Int) (s : ByteArray) (w : World) : Calls Tryz.prog 56 #[vAgg 3 x s] w fun e w' => e = .returned (.int .u64 x) ∧ Below w.heap.size w w' := by
 have ta0 : ∀ w : World, (Instr.typeAssert (.iface 131 (.agg #[.int .u64 x, .string s])) 121 133 true).run Tryz.prog w = .ok (.tuple #[.agg #[.int .u64 0], .bool false]) w := fun _ => by kernel_rfl
 have ta1 : ∀ w : World, (Instr.typeAssert (.iface 131 (.agg #[.int .u64 x, .string s])) 121 131 true).run Tryz.prog w = .ok (.tuple #[.agg #[.int .u64 x, .string s], .bool true]) w := fun _ => by kernel_rfl
 go_enter Tryz.func56, Tryz.ntmps56; go_wp2_with fail; refine (inside_3 x s _).mono ?_; rintro e w1 ⟨rfl, hb⟩; have HB := Lib.hid hb; clear hb; go_wp2_with fail; go_ret; exact ⟨rfl, by repeat (first | exact below_one HB.out | apply below_alloc | exact below_one HB.out)⟩
set_option maxRecDepth 100000 in
set_option maxHeartbeats 1000000 in
theorem ToStr_0 (k x : Int) (s cf : ByteArray) (w : World) (h1 : (k == 1) = false) (h2 : (k == 2) = false) (h3 : (k == 3) = false) : Calls Tryz.prog 67 #[vAgg k x s, .string cf] w fun e w' => e = .returned (.tuple #[.string ⟨#[]⟩, .int .i64 0]) ∧ Below w.heap.size w w' := by
 have ta0 : ∀ w : World, (Instr.typeAssert (.iface 156 (.agg #[])) 121 126 true).run Tryz.prog w = .ok (.tuple #[.agg #[.string ⟨#[]⟩], .bool false]) w := fun _ => by kernel_rfl
 have ta1 : ∀ w : World, (Instr.typeAssert (.iface 156 (.agg #[])) 121 131 true).run Tryz.prog w = .ok (.tuple #[.agg #[.int .u64 0, .string ⟨#[]⟩], .bool false]) w := fun _ => by kernel_rfl
 have ta2 : ∀ w : World, (Instr.typeAssert (.iface 156 (.agg #[])) 121 133 true).run Tryz.prog w = .ok (.tuple #[.agg #[.int .u64 0], .bool false]) w := fun _ => by kernel_rfl
 go_enter Tryz.func67, Tryz.ntmps67; go_wp2_with fail; refine (inside_0 k x s _ h1 h2 h3).mono ?_; rintro e w1 ⟨rfl, hb⟩; have HB := Lib.hid hb; clear hb; go_wp2_with fail; go_ret2; exact ⟨rfl, by repeat (first | exact below_one HB.out | apply below_alloc | exact below_one HB.out)⟩
set_option maxRecDepth 100000 in
set_option maxHeartbeats 1000000 in
theorem ToStr_2 (x : Int) (s cf : ByteArray) (w : World) : Calls Tryz.prog 67 #[vAgg 2 x s, .string cf] w fun e w' => e = .returned (.tuple #[.string s, .int .i64 0]) ∧ Below w.heap.size w w' := by
 have ta0 : ∀ w : World, (Instr.typeAssert (.iface 126 (.agg #[.string s])) 121 126 true).run Tryz.prog w = .ok (.tuple #[.agg #[.string s], .bool true]) w := fun _ => by kernel_rfl
 go_enter Tryz.func67, Tryz.ntmps67; go_wp2_with fail; refine (inside_2 x s _).mono ?_; rintro e w1 ⟨rfl, hb⟩; have HB := Lib.hid hb; clear hb; go_wp2_with fail; go_ret2; exact ⟨rfl, by repeat (first | exact below_one HB.out | apply below_alloc | exact below_one HB.out)⟩
set_option maxRecDepth 100000 in
set_option maxHeartbeats 1000000 in
theorem ToStr_3 (x : Int) (s cf : ByteArray) (w : World) : Calls Tryz.prog 67 #[vAgg 3 x s, .string cf] w fun e w' => e = .returned (.tuple #[.string s, .int .i64 0]) ∧ Below w.heap.size w w' := by
 have ta0 : ∀ w : World, (Instr.typeAssert (.iface 131 (.agg #[.int .u64 x, .string s])) 121 126 true).run Tryz.prog w = .ok (.tuple #[.agg #[.string ⟨#[]⟩], .bool false]) w := fun _ => by kernel_rfl
 have ta1 : ∀ w : World, (Instr.typeAssert (.iface 131 (.agg #[.int .u64 x, .string s])) 121 131 true).run Tryz.prog w = .ok (.tuple #[.agg #[.int .u64 x, .string s], .bool true]) w := fun _ => by kernel_rfl
 go_enter Tryz.func67, Tryz.ntmps67; go_wp2_with fail; refine (inside_3 x s _).mono ?_; rintro e w1 ⟨rfl, hb⟩; have HB := Lib.hid hb; clear hb; go_wp2_with fail; go_ret2; exact ⟨rfl, by repeat (first | exact below_one HB.out | apply below_alloc | exact below_one HB.out)⟩
end Go.Proofs.YtmbacdkpgfbclaaGreatDoor
