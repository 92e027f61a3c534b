/- value's functions that go through an interface, walked: Plain, Numeric, ToNum, ToStr; conditions: none. -/
import Derived.Test.YtoanmnhkhookfaaGreatDoorVal
import Derived.Test.YtoanmnhkhookfaaGreatDoorWWords
import Derived.Lib.Hide
namespace Go.Proofs.YtoanmnhkhookfaaGreatDoor
open Go.RowKit Go.Proofs.YtoanmnhkhookfaaGreatDoorW.PrintWords
set_option linter.unusedVariables false
set_option linter.unusedSimpArgs false

theorem valBox {w : World} {g t : Nat} {a b c : Value} (h : w.heap[g]? = some (.cells #[a, b, c] t (0, 0))) (x y z : Value) :
    (((w.setCell ⟨g, 0, none⟩ x).setCell ⟨g, 1, none⟩ y).setCell ⟨g, 2, none⟩ z).heap[g]? = some (.cells #[x, y, z] t (0, 0)) :=
  blk_put (cs := #[x, y, c]) (blk_put (cs := #[x, b, c]) (blk_put h 0 _ rfl) 1 _ rfl) 2 _ rfl
theorem valBelow {w w2 : World} {g : Nat} (hb : Below w.heap.size w w2) (hg : w.heap.size ≤ g) (x y z : Value) :
    Below w.heap.size w (((w2.setCell ⟨g, 0, none⟩ x).setCell ⟨g, 1, none⟩ y).setCell ⟨g, 2, none⟩ z) := below_set (below_set (below_set hb hg) hg) hg
theorem below_two {w w1 : World} {a b : Obj} (h : Below ((w.alloc a).alloc b).heap.size ((w.alloc a).alloc b) w1) : Below w.heap.size w w1 :=
  (below_alloc (below_alloc (Below.refl _ _) _) _).trans (h.mono (by simp; omega))
theorem below_one {w w1 : World} {a : Obj} (h : Below (w.alloc a).heap.size (w.alloc a) w1) : Below w.heap.size w w1 :=
  (below_alloc (Below.refl _ _) _).trans (h.mono (by simp))
set_option maxRecDepth 100000 in
set_option maxHeartbeats 1000000 in
theorem Plain_1 (x : Int) (s : ByteArray) (w : World) : Calls Tryz.prog 29 #[vAgg 1 x s] w fun e w' => e = .returned (vAgg 1 x ⟨#[]⟩) ∧ Below w.heap.size w w' := by
  have hm : ∀ w : World, (method 460 130 (.agg #[.int .u64 x]) "abacus/value.plain").run Tryz.prog w = .ok (249, .agg #[.int .u64 x]) w := fun _ => by kernel_rfl
  go_enter Tryz.func29, Tryz.ntmps29
  go_wp2_with fail
  refine (inside_1 x s _).mono ?_
  rintro e w1 ⟨rfl, hb⟩
  have hz : w.heap.size + 1 < w1.heap.size := by have := hb.size; simp at this; omega
  have hbk : w1.heap[w.heap.size + 1]? = some (.cells #[.int .i64 0, .int .u64 0, .string ⟨#[]⟩] 29 (0, 0)) := (hb.block _ (by simp)).trans (new2 w _ _)
  have HB := Lib.hid hb
  go_wp2_with fail
  refine (plain_1 x _).mono ?_
  rintro e w2 ⟨rfl, hb2⟩
  have hbk2 := (hb2.block _ hz).trans hbk
  have hz2 : w.heap.size + 1 < w2.heap.size := Nat.lt_of_lt_of_le hz hb2.size
  have hfz : ∀ j, w2.frozen? ⟨w.heap.size + 1, j, none⟩ = false := fun j => by simp [World.frozen?, hbk2]
  have hf0 := hfz 0
  have hf1 := hfz 1
  have hf2 := hfz 2
  have hc0 : w2.cell? ⟨w.heap.size + 1, 0, none⟩ = some (.int .i64 0) := by rw [cell_of_row _ _ 0 _ _ _ hbk2]; rfl
  have hc1 : w2.cell? ⟨w.heap.size + 1, 1, none⟩ = some (.int .u64 0) := by rw [cell_of_row _ _ 1 _ _ _ hbk2]; rfl
  have hc2 : w2.cell? ⟨w.heap.size + 1, 2, none⟩ = some (.string ⟨#[]⟩) := by rw [cell_of_row _ _ 2 _ _ _ hbk2]; rfl
  have HBK := Lib.hid hbk2
  clear hbk hbk2 hb hz hfz
  go_wp2_with fail
  refine bodyPost_ret (results_cell_row rfl _ _ (w.heap.size + 1) 29 #[.int .i64 1, .int .u64 x, .string ⟨#[]⟩] (0, 0) _ rfl (valBox HBK.out _ _ _) Tryz.underlying29 rfl (by kernel_rfl)) rfl ?_
  exact ⟨rfl, valBelow (below_then (below_two HB.out) (below_two HB.out).size hb2) (Nat.le_succ _) _ _ _⟩
set_option maxRecDepth 100000 in
set_option maxHeartbeats 1000000 in
theorem Plain_2 (x : Int) (s : ByteArray) (w : World) : Calls Tryz.prog 29 #[vAgg 2 x s] w fun e w' => e = .returned (vAgg 2 0 s) ∧ Below w.heap.size w w' := by
  have hm : ∀ w : World, (method 460 95 (.agg #[.string s]) "abacus/value.plain").run Tryz.prog w = .ok (79, .agg #[.string s]) w := fun _ => by kernel_rfl
  go_enter Tryz.func29, Tryz.ntmps29
  go_wp2_with fail
  refine (inside_2 x s _).mono ?_
  rintro e w1 ⟨rfl, hb⟩
  have hz : w.heap.size + 1 < w1.heap.size := by have := hb.size; simp at this; omega
  have hbk : w1.heap[w.heap.size + 1]? = some (.cells #[.int .i64 0, .int .u64 0, .string ⟨#[]⟩] 29 (0, 0)) := (hb.block _ (by simp)).trans (new2 w _ _)
  have HB := Lib.hid hb
  go_wp2_with fail
  refine (plain_2 s _).mono ?_
  rintro e w2 ⟨rfl, hb2⟩
  have hbk2 := (hb2.block _ hz).trans hbk
  have hz2 : w.heap.size + 1 < w2.heap.size := Nat.lt_of_lt_of_le hz hb2.size
  have hfz : ∀ j, w2.frozen? ⟨w.heap.size + 1, j, none⟩ = false := fun j => by simp [World.frozen?, hbk2]
  have hf0 := hfz 0
  have hf1 := hfz 1
  have hf2 := hfz 2
  have hc0 : w2.cell? ⟨w.heap.size + 1, 0, none⟩ = some (.int .i64 0) := by rw [cell_of_row _ _ 0 _ _ _ hbk2]; rfl
  have hc1 : w2.cell? ⟨w.heap.size + 1, 1, none⟩ = some (.int .u64 0) := by rw [cell_of_row _ _ 1 _ _ _ hbk2]; rfl
  have hc2 : w2.cell? ⟨w.heap.size + 1, 2, none⟩ = some (.string ⟨#[]⟩) := by rw [cell_of_row _ _ 2 _ _ _ hbk2]; rfl
  have HBK := Lib.hid hbk2
  clear hbk hbk2 hb hz hfz
  go_wp2_with fail
  refine bodyPost_ret (results_cell_row rfl _ _ (w.heap.size + 1) 29 #[.int .i64 2, .int .u64 0, .string s] (0, 0) _ rfl (valBox HBK.out _ _ _) Tryz.underlying29 rfl (by kernel_rfl)) rfl ?_
  exact ⟨rfl, valBelow (below_then (below_two HB.out) (below_two HB.out).size hb2) (Nat.le_succ _) _ _ _⟩
set_option maxRecDepth 100000 in
set_option maxHeartbeats 1000000 in
theorem Plain_3 (x : Int) (s : ByteArray) (w : World) : Calls Tryz.prog 29 #[vAgg 3 x s] w fun e w' => e = .returned (vAgg 3 x s) ∧ Below w.heap.size w w' := by
  have hm : ∀ w : World, (method 460 125 (.agg #[.int .u64 x, .string s]) "abacus/value.plain").run Tryz.prog w = .ok (81, .agg #[.int .u64 x, .string s]) w := fun _ => by kernel_rfl
  go_enter Tryz.func29, Tryz.ntmps29
  go_wp2_with fail
  refine (inside_3 x s _).mono ?_
  rintro e w1 ⟨rfl, hb⟩
  have hz : w.heap.size + 1 < w1.heap.size := by have := hb.size; simp at this; omega
  have hbk : w1.heap[w.heap.size + 1]? = some (.cells #[.int .i64 0, .int .u64 0, .string ⟨#[]⟩] 29 (0, 0)) := (hb.block _ (by simp)).trans (new2 w _ _)
  have HB := Lib.hid hb
  go_wp2_with fail
  refine (plain_3 x s _).mono ?_
  rintro e w2 ⟨rfl, hb2⟩
  have hbk2 := (hb2.block _ hz).trans hbk
  have hz2 : w.heap.size + 1 < w2.heap.size := Nat.lt_of_lt_of_le hz hb2.size
  have hfz : ∀ j, w2.frozen? ⟨w.heap.size + 1, j, none⟩ = false := fun j => by simp [World.frozen?, hbk2]
  have hf0 := hfz 0
  have hf1 := hfz 1
  have hf2 := hfz 2
  have hc0 : w2.cell? ⟨w.heap.size + 1, 0, none⟩ = some (.int .i64 0) := by rw [cell_of_row _ _ 0 _ _ _ hbk2]; rfl
  have hc1 : w2.cell? ⟨w.heap.size + 1, 1, none⟩ = some (.int .u64 0) := by rw [cell_of_row _ _ 1 _ _ _ hbk2]; rfl
  have hc2 : w2.cell? ⟨w.heap.size + 1, 2, none⟩ = some (.string ⟨#[]⟩) := by rw [cell_of_row _ _ 2 _ _ _ hbk2]; rfl
  have HBK := Lib.hid hbk2
  clear hbk hbk2 hb hz hfz
  go_wp2_with fail
  refine bodyPost_ret (results_cell_row rfl _ _ (w.heap.size + 1) 29 #[.int .i64 3, .int .u64 x, .string s] (0, 0) _ rfl (valBox HBK.out _ _ _) Tryz.underlying29 rfl (by kernel_rfl)) rfl ?_
  exact ⟨rfl, valBelow (below_then (below_two HB.out) (below_two HB.out).size hb2) (Nat.le_succ _) _ _ _⟩
set_option maxRecDepth 100000 in
set_option maxHeartbeats 1000000 in
theorem Plain_0 (k x : Int) (s : ByteArray) (w : World) (h1 : (k == 1) = false) (h2 : (k == 2) = false) (h3 : (k == 3) = false) : Calls Tryz.prog 29 #[vAgg k x s] w fun e w' => e = .returned (vAgg 0 0 ⟨#[]⟩) ∧ Below w.heap.size w w' := by
  have hm : ∀ w : World, (method 460 136 (.agg #[]) "abacus/value.plain").run Tryz.prog w = .ok (250, .agg #[]) w := fun _ => by kernel_rfl
  go_enter Tryz.func29, Tryz.ntmps29
  go_wp2_with fail
  refine (inside_0 k x s _ h1 h2 h3).mono ?_
  rintro e w1 ⟨rfl, hb⟩
  have hz : w.heap.size + 1 < w1.heap.size := by have := hb.size; simp at this; omega
  have hbk : w1.heap[w.heap.size + 1]? = some (.cells #[.int .i64 0, .int .u64 0, .string ⟨#[]⟩] 29 (0, 0)) := (hb.block _ (by simp)).trans (new2 w _ _)
  have HB := Lib.hid hb
  go_wp2_with fail
  refine (plain_0  _).mono ?_
  rintro e w2 ⟨rfl, hb2⟩
  have hbk2 := (hb2.block _ hz).trans hbk
  have hz2 : w.heap.size + 1 < w2.heap.size := Nat.lt_of_lt_of_le hz hb2.size
  have hfz : ∀ j, w2.frozen? ⟨w.heap.size + 1, j, none⟩ = false := fun j => by simp [World.frozen?, hbk2]
  have hf0 := hfz 0
  have hf1 := hfz 1
  have hf2 := hfz 2
  have hc0 : w2.cell? ⟨w.heap.size + 1, 0, none⟩ = some (.int .i64 0) := by rw [cell_of_row _ _ 0 _ _ _ hbk2]; rfl
  have hc1 : w2.cell? ⟨w.heap.size + 1, 1, none⟩ = some (.int .u64 0) := by rw [cell_of_row _ _ 1 _ _ _ hbk2]; rfl
  have hc2 : w2.cell? ⟨w.heap.size + 1, 2, none⟩ = some (.string ⟨#[]⟩) := by rw [cell_of_row _ _ 2 _ _ _ hbk2]; rfl
  have HBK := Lib.hid hbk2
  clear hbk hbk2 hb hz hfz
  go_wp2_with fail
  refine bodyPost_ret (results_cell_row rfl _ _ (w.heap.size + 1) 29 #[.int .i64 0, .int .u64 0, .string ⟨#[]⟩] (0, 0) _ rfl (valBox HBK.out _ _ _) Tryz.underlying29 rfl (by kernel_rfl)) rfl ?_
  exact ⟨rfl, valBelow (below_then (below_two HB.out) (below_two HB.out).size hb2) (Nat.le_succ _) _ _ _⟩
set_option maxRecDepth 100000 in
set_option maxHeartbeats 1000000 in
theorem Numeric_0 (k x : Int) (s : ByteArray) (w : World) (h1 : (k == 1) = false) (h2 : (k == 2) = false) (h3 : (k == 3) = false) : Calls Tryz.prog 21 #[vAgg k x s] w fun e w' => e = .returned (.bool true) ∧ Below w.heap.size w w' := by
  have ta0 : ∀ w : World, (Instr.typeAssert (.iface 136 (.agg #[])) 92 95 true).run Tryz.prog w = .ok (.tuple #[.agg #[.string ⟨#[]⟩], .bool false]) w := fun _ => by kernel_rfl
  go_enter Tryz.func21, Tryz.ntmps21
  go_wp2_with fail
  refine (inside_0 k x s _ h1 h2 h3).mono ?_
  rintro e w1 ⟨rfl, hb⟩
  have HB := Lib.hid hb
  clear hb
  go_wp2_with fail
  go_ret
  exact ⟨rfl, by repeat (first | exact below_one HB.out | apply below_alloc | exact below_one HB.out)⟩
set_option maxRecDepth 100000 in
set_option maxHeartbeats 1000000 in
theorem Numeric_1 (x : Int) (s : ByteArray) (w : World) : Calls Tryz.prog 21 #[vAgg 1 x s] w fun e w' => e = .returned (.bool true) ∧ Below w.heap.size w w' := by
  have ta0 : ∀ w : World, (Instr.typeAssert (.iface 130 (.agg #[.int .u64 x])) 92 95 true).run Tryz.prog w = .ok (.tuple #[.agg #[.string ⟨#[]⟩], .bool false]) w := fun _ => by kernel_rfl
  go_enter Tryz.func21, Tryz.ntmps21
  go_wp2_with fail
  refine (inside_1 x s _).mono ?_
  rintro e w1 ⟨rfl, hb⟩
  have HB := Lib.hid hb
  clear hb
  go_wp2_with fail
  go_ret
  exact ⟨rfl, by repeat (first | exact below_one HB.out | apply below_alloc | exact below_one HB.out)⟩
set_option maxRecDepth 100000 in
set_option maxHeartbeats 1000000 in
theorem Numeric_2 (x : Int) (s : ByteArray) (w : World) : Calls Tryz.prog 21 #[vAgg 2 x s] w fun e w' => e = .returned (.bool false) ∧ Below w.heap.size w w' := by
  have ta0 : ∀ w : World, (Instr.typeAssert (.iface 95 (.agg #[.string s])) 92 95 true).run Tryz.prog w = .ok (.tuple #[.agg #[.string s], .bool true]) w := fun _ => by kernel_rfl
  go_enter Tryz.func21, Tryz.ntmps21
  go_wp2_with fail
  refine (inside_2 x s _).mono ?_
  rintro e w1 ⟨rfl, hb⟩
  have HB := Lib.hid hb
  clear hb
  go_wp2_with fail
  go_ret
  exact ⟨rfl, by repeat (first | exact below_one HB.out | apply below_alloc | exact below_one HB.out)⟩
set_option maxRecDepth 100000 in
set_option maxHeartbeats 1000000 in
theorem Numeric_3 (x : Int) (s : ByteArray) (w : World) : Calls Tryz.prog 21 #[vAgg 3 x s] w fun e w' => e = .returned (.bool true) ∧ Below w.heap.size w w' := by
  have ta0 : ∀ w : World, (Instr.typeAssert (.iface 125 (.agg #[.int .u64 x, .string s])) 92 95 true).run Tryz.prog w = .ok (.tuple #[.agg #[.string ⟨#[]⟩], .bool false]) w := fun _ => by kernel_rfl
  go_enter Tryz.func21, Tryz.ntmps21
  go_wp2_with fail
  refine (inside_3 x s _).mono ?_
  rintro e w1 ⟨rfl, hb⟩
  have HB := Lib.hid hb
  clear hb
  go_wp2_with fail
  go_ret
  exact ⟨rfl, by repeat (first | exact below_one HB.out | apply below_alloc | exact below_one HB.out)⟩
set_option maxRecDepth 100000 in
set_option maxHeartbeats 1000000 in
theorem ToNum_0 (k x : Int) (s : ByteArray) (w : World) (h1 : (k == 1) = false) (h2 : (k == 2) = false) (h3 : (k == 3) = false) : Calls Tryz.prog 60 #[vAgg k x s] w fun e w' => e = .returned (.int .u64 0) ∧ Below w.heap.size w w' := by
  have ta0 : ∀ w : World, (Instr.typeAssert (.iface 136 (.agg #[])) 92 130 true).run Tryz.prog w = .ok (.tuple #[.agg #[.int .u64 0], .bool false]) w := fun _ => by kernel_rfl
  have ta1 : ∀ w : World, (Instr.typeAssert (.iface 136 (.agg #[])) 92 125 true).run Tryz.prog w = .ok (.tuple #[.agg #[.int .u64 0, .string ⟨#[]⟩], .bool false]) w := fun _ => by kernel_rfl
  have ta2 : ∀ w : World, (Instr.typeAssert (.iface 136 (.agg #[])) 92 95 true).run Tryz.prog w = .ok (.tuple #[.agg #[.string ⟨#[]⟩], .bool false]) w := fun _ => by kernel_rfl
  go_enter Tryz.func60, Tryz.ntmps60
  go_wp2_with fail
  refine (inside_0 k x s _ h1 h2 h3).mono ?_
  rintro e w1 ⟨rfl, hb⟩
  have HB := Lib.hid hb
  clear hb
  go_wp2_with fail
  go_ret
  exact ⟨rfl, by repeat (first | exact below_one HB.out | apply below_alloc | exact below_one HB.out)⟩
set_option maxRecDepth 100000 in
set_option maxHeartbeats 1000000 in
theorem ToNum_1 (x : Int) (s : ByteArray) (w : World) : Calls Tryz.prog 60 #[vAgg 1 x s] w fun e w' => e = .returned (.int .u64 x) ∧ Below w.heap.size w w' := by
  have ta0 : ∀ w : World, (Instr.typeAssert (.iface 130 (.agg #[.int .u64 x])) 92 130 true).run Tryz.prog w = .ok (.tuple #[.agg #[.int .u64 x], .bool true]) w := fun _ => by kernel_rfl
  go_enter Tryz.func60, Tryz.ntmps60
  go_wp2_with fail
  refine (inside_1 x s _).mono ?_
  rintro e w1 ⟨rfl, hb⟩
  have HB := Lib.hid hb
  clear hb
  go_wp2_with fail
  go_ret
  exact ⟨rfl, by repeat (first | exact below_one HB.out | apply below_alloc | exact below_one HB.out)⟩
set_option maxRecDepth 100000 in
set_option maxHeartbeats 1000000 in
theorem ToNum_3 (x : Int) (s : ByteArray) (w : World) : Calls Tryz.prog 60 #[vAgg 3 x s] w fun e w' => e = .returned (.int .u64 x) ∧ Below w.heap.size w w' := by
  have ta0 : ∀ w : World, (Instr.typeAssert (.iface 125 (.agg #[.int .u64 x, .string s])) 92 130 true).run Tryz.prog w = .ok (.tuple #[.agg #[.int .u64 0], .bool false]) w := fun _ => by kernel_rfl
  have ta1 : ∀ w : World, (Instr.typeAssert (.iface 125 (.agg #[.int .u64 x, .string s])) 92 125 true).run Tryz.prog w = .ok (.tuple #[.agg #[.int .u64 x, .string s], .bool true]) w := fun _ => by kernel_rfl
  go_enter Tryz.func60, Tryz.ntmps60
  go_wp2_with fail
  refine (inside_3 x s _).mono ?_
  rintro e w1 ⟨rfl, hb⟩
  have HB := Lib.hid hb
  clear hb
  go_wp2_with fail
  go_ret
  exact ⟨rfl, by repeat (first | exact below_one HB.out | apply below_alloc | exact below_one HB.out)⟩
set_option maxRecDepth 100000 in
set_option maxHeartbeats 1000000 in
theorem ToStr_0 (k x : Int) (s cf : ByteArray) (w : World) (h1 : (k == 1) = false) (h2 : (k == 2) = false) (h3 : (k == 3) = false) : Calls Tryz.prog 61 #[vAgg k x s, .string cf] w fun e w' => e = .returned (.tuple #[.string ⟨#[]⟩, .int .i64 0]) ∧ Below w.heap.size w w' := by
  have ta0 : ∀ w : World, (Instr.typeAssert (.iface 136 (.agg #[])) 92 95 true).run Tryz.prog w = .ok (.tuple #[.agg #[.string ⟨#[]⟩], .bool false]) w := fun _ => by kernel_rfl
  have ta1 : ∀ w : World, (Instr.typeAssert (.iface 136 (.agg #[])) 92 125 true).run Tryz.prog w = .ok (.tuple #[.agg #[.int .u64 0, .string ⟨#[]⟩], .bool false]) w := fun _ => by kernel_rfl
  have ta2 : ∀ w : World, (Instr.typeAssert (.iface 136 (.agg #[])) 92 130 true).run Tryz.prog w = .ok (.tuple #[.agg #[.int .u64 0], .bool false]) w := fun _ => by kernel_rfl
  go_enter Tryz.func61, Tryz.ntmps61
  go_wp2_with fail
  refine (inside_0 k x s _ h1 h2 h3).mono ?_
  rintro e w1 ⟨rfl, hb⟩
  have HB := Lib.hid hb
  clear hb
  go_wp2_with fail
  go_ret2
  exact ⟨rfl, by repeat (first | exact below_one HB.out | apply below_alloc | exact below_one HB.out)⟩
set_option maxRecDepth 100000 in
set_option maxHeartbeats 1000000 in
theorem ToStr_2 (x : Int) (s cf : ByteArray) (w : World) : Calls Tryz.prog 61 #[vAgg 2 x s, .string cf] w fun e w' => e = .returned (.tuple #[.string s, .int .i64 0]) ∧ Below w.heap.size w w' := by
  have ta0 : ∀ w : World, (Instr.typeAssert (.iface 95 (.agg #[.string s])) 92 95 true).run Tryz.prog w = .ok (.tuple #[.agg #[.string s], .bool true]) w := fun _ => by kernel_rfl
  go_enter Tryz.func61, Tryz.ntmps61
  go_wp2_with fail
  refine (inside_2 x s _).mono ?_
  rintro e w1 ⟨rfl, hb⟩
  have HB := Lib.hid hb
  clear hb
  go_wp2_with fail
  go_ret2
  exact ⟨rfl, by repeat (first | exact below_one HB.out | apply below_alloc | exact below_one HB.out)⟩
set_option maxRecDepth 100000 in
set_option maxHeartbeats 1000000 in
theorem ToStr_3 (x : Int) (s cf : ByteArray) (w : World) : Calls Tryz.prog 61 #[vAgg 3 x s, .string cf] w fun e w' => e = .returned (.tuple #[.string s, .int .i64 0]) ∧ Below w.heap.size w w' := by
  have ta0 : ∀ w : World, (Instr.typeAssert (.iface 125 (.agg #[.int .u64 x, .string s])) 92 95 true).run Tryz.prog w = .ok (.tuple #[.agg #[.string ⟨#[]⟩], .bool false]) w := fun _ => by kernel_rfl
  have ta1 : ∀ w : World, (Instr.typeAssert (.iface 125 (.agg #[.int .u64 x, .string s])) 92 125 true).run Tryz.prog w = .ok (.tuple #[.agg #[.int .u64 x, .string s], .bool true]) w := fun _ => by kernel_rfl
  go_enter Tryz.func61, Tryz.ntmps61
  go_wp2_with fail
  refine (inside_3 x s _).mono ?_
  rintro e w1 ⟨rfl, hb⟩
  have HB := Lib.hid hb
  clear hb
  go_wp2_with fail
  go_ret2
  exact ⟨rfl, by repeat (first | exact below_one HB.out | apply below_alloc | exact below_one HB.out)⟩
set_option maxRecDepth 100000 in
set_option maxHeartbeats 1000000 in
theorem ToStr_1 (x : Int) (s cf r : ByteArray) (w : World) (hB : ∀ u : World, Below w.heap.size w u → Calls Tryz.prog 85 #[.int .u64 x, .string cf] u fun e u' => e = .returned (.tuple #[.string r, .int .i64 0]) ∧ Below u.heap.size u u') : Calls Tryz.prog 61 #[vAgg 1 x s, .string cf] w fun e w' => e = .returned (.tuple #[.string r, .int .i64 0]) ∧ Below w.heap.size w w' := by
  have ta0 : ∀ w : World, (Instr.typeAssert (.iface 130 (.agg #[.int .u64 x])) 92 95 true).run Tryz.prog w = .ok (.tuple #[.agg #[.string ⟨#[]⟩], .bool false]) w := fun _ => by kernel_rfl
  have ta1 : ∀ w : World, (Instr.typeAssert (.iface 130 (.agg #[.int .u64 x])) 92 125 true).run Tryz.prog w = .ok (.tuple #[.agg #[.int .u64 0, .string ⟨#[]⟩], .bool false]) w := fun _ => by kernel_rfl
  have ta2 : ∀ w : World, (Instr.typeAssert (.iface 130 (.agg #[.int .u64 x])) 92 130 true).run Tryz.prog w = .ok (.tuple #[.agg #[.int .u64 x], .bool true]) w := fun _ => by kernel_rfl
  have HF := Lib.hid hB
  clear hB
  go_enter Tryz.func61, Tryz.ntmps61
  go_wp2_with fail
  refine (inside_1 x s _).mono ?_
  rintro e w1 ⟨rfl, hb⟩
  have HB := Lib.hid hb
  clear hb
  go_wp2_with fail
  refine (HF.out _ (below_alloc (below_one HB.out) _)).mono ?_
  rintro e w2 ⟨rfl, hb2⟩
  have HB2 := Lib.hid hb2
  clear hb2
  go_wp2_with fail
  go_ret2
  exact ⟨rfl, below_then (below_alloc (below_one HB.out) _) (below_alloc (below_one HB.out) _).size HB2.out⟩
end Go.Proofs.YtoanmnhkhookfaaGreatDoor
