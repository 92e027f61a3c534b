/- RelateNothing's own code, walked: a nil queue, an empty queue, the loop; conditions: awake answers true; each text is shorter than 2^62. -/
import Derived.Test.YtoanmnhkhookfaaGreatDoorQueued
import Derived.Test.YtoanmnhkhookfaaGreatDoorPXAwake
namespace Go.Proofs.YtoanmnhkhookfaaGreatDoor
open Go.RowKit Go.Proofs.YtoanmnhkhookfaaGreatDoorW.PrintWords Go.Proofs.YtoanmnhkhookfaaGreatDoorW.PrintLast Heap
set_option linter.unusedVariables false
set_option linter.unusedSimpArgs false
set_option maxRecDepth 100000 in
theorem Push_nil (k x : Int) (s : ByteArray) (w : World) :
    Calls Tryz.prog 28 #[.pointer none, vAgg k x s] w fun e w' => e = .returned (.int .i64 0) ∧ Below w.heap.size w w' := by
  go_enter Tryz.func28, Tryz.ntmps28
  go_wp2_with fail
  go_ret
  exact ⟨rfl, below_alloc (Below.refl _ _) _⟩
set_option maxRecDepth 100000 in
theorem Pop_nil (w : World) :
    Calls Tryz.prog 30 #[.pointer none] w fun e w' => e = .returned (.tuple #[vAgg 0 0 ⟨#[]⟩, .int .i64 0, .bool false]) ∧ Below w.heap.size w w' := by
  go_enter Tryz.func30, Tryz.ntmps30
  go_wp2_with fail
  refine bodyPost_ret (results_ctt rfl _ _ w.heap.size 29 #[.int .i64 0, .int .u64 0, .string ⟨#[]⟩] (0, 0) _ rfl (blk_new _ _) Tryz.underlying29 rfl (by kernel_rfl)) rfl ?_
  exact ⟨rfl, below_alloc (Below.refl _ _) _⟩
set_option maxRecDepth 100000 in
theorem Peek_nil (w : World) :
    Calls Tryz.prog 34 #[.pointer none] w fun e w' => e = .returned (.tuple #[vAgg 0 0 ⟨#[]⟩, .int .i64 0, .bool false]) ∧ Below w.heap.size w w' := by
  go_enter Tryz.func34, Tryz.ntmps34
  go_wp2_with fail
  refine bodyPost_ret (results_ctt rfl _ _ w.heap.size 29 #[.int .i64 0, .int .u64 0, .string ⟨#[]⟩] (0, 0) _ rfl (blk_new _ _) Tryz.underlying29 rfl (by kernel_rfl)) rfl ?_
  exact ⟨rfl, below_alloc (Below.refl _ _) _⟩
set_option maxRecDepth 100000 in
set_option maxHeartbeats 1000000 in
theorem Peek_empty (base q : Nat) (v : Value) (next : Int) (w : World) (hH : QAt base q v [] next w) :
    Calls Tryz.prog 34 #[.pointer (some ⟨q, 0, none⟩)] w fun e w' => e = .returned (.tuple #[vAgg 0 0 ⟨#[]⟩, .int .i64 0, .bool false]) ∧ Below w.heap.size w w' := by
  have c0 := cellA hH.cell0
  obtain ⟨A0, C0, hv⟩ := own_slice hH.row
  subst hv
  clear hH
  go_enter Tryz.func34, Tryz.ntmps34
  go_wp2_with fail
  refine bodyPost_ret (results_ctt rfl _ _ w.heap.size 29 #[.int .i64 0, .int .u64 0, .string ⟨#[]⟩] (0, 0) _ rfl (blk_new _ _) Tryz.underlying29 rfl (by kernel_rfl)) rfl ?_
  exact ⟨rfl, below_alloc (Below.refl _ _) _⟩
set_option maxRecDepth 100000 in
theorem Len_nil (w : World) :
    Calls Tryz.prog 31 #[.pointer none] w fun e w' => e = .returned (.int .i64 0) ∧ w = w' := by
  go_enter Tryz.func31, Tryz.ntmps31
  go_wp2_with fail
  go_ret
  exact ⟨rfl, rfl⟩
theorem plain_size (k x : Int) (s : ByteArray) : (plainOf k x s).2.2.size ≤ s.size := by
  unfold plainOf
  split
  · exact Nat.zero_le _
  · split
    · exact Nat.le_refl _
    · split
      · exact Nat.le_refl _
      · exact Nat.zero_le _
theorem push_one (lt : Ent → Ent → Bool) (e : Ent) : push lt [] e = [e] := by unfold push siftUp; rfl
theorem pop_one (lt : Ent → Ent → Bool) (e : Ent) : pop lt [e] = [] := List.eq_nil_of_length_eq_zero (by rw [pop_length]; rfl)
end Go.Proofs.YtoanmnhkhookfaaGreatDoor
