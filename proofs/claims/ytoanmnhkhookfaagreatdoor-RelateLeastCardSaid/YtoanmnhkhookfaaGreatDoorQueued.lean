/- The law's own look at a fresh queue, walked; conditions: the order sets 1 ahead of 2. -/
import Derived.Test.YtoanmnhkhookfaaGreatDoorQueue
namespace Go.Proofs.YtoanmnhkhookfaaGreatDoor
open Go.RowKit Go.Proofs.YtoanmnhkhookfaaGreatDoorW.PrintWords Heap
set_option linter.unusedVariables false
set_option linter.unusedSimpArgs false
set_option maxRecDepth 100000 in
theorem num18 (x : Int) (w : World) : Calls Tryz.prog 20 #[.int .u64 x] w fun e w' => e = .returned (vAgg 1 x ⟨#[]⟩) ∧ Below w.heap.size w w' := by
  go_enter Tryz.func20, Tryz.ntmps20
  go_wp2
  refine bodyPost_ret (results_cell_row rfl _ _ w.heap.size 29 #[.int .i64 1, .int .u64 x, .string ⟨#[]⟩] (0, 0) _ rfl (blk_new _ _) Tryz.underlying29 rfl (by kernel_rfl)) rfl ?_
  exact ⟨rfl, below_alloc (Below.refl _ _) _⟩
theorem plain18 (x : Int) : plainOf 1 x ⟨#[]⟩ = (1, x, ⟨#[]⟩) := rfl
def e2 : Ent := (1, 4611686018427387904, ⟨#[]⟩, 0)
def e1 : Ent := (1, 4607182418800017408, ⟨#[]⟩, 1)
theorem push1 (lt : Ent → Ent → Bool) : push lt [] e2 = [e2] := by unfold push siftUp; rfl
theorem push2 (lt : Ent → Ent → Bool) (h : lt e1 e2 = true) : push lt [e2] e1 = [e1, e2] := by
  unfold push
  show siftUp lt [e2, e1] 1 = _
  unfold siftUp
  rw [dif_neg (by omega)]
  have h1 : g [e2, e1] 1 = e1 := rfl
  have h2 : g [e2, e1] ((1 - 1) / 2) = e2 := rfl
  rw [h1, h2, if_pos h]
  unfold siftUp
  rw [dif_pos rfl]
  rfl
set_option maxRecDepth 100000 in
set_option maxHeartbeats 4000000 in
theorem queued_walk (lt : Ent → Ent → Bool) (HL : Less lt) (hlt : lt e1 e2 = true) (w : World) (h5 : 5 ≤ w.heap.size) (HG : GW w) :
    Calls Tryz.prog 58 #[] w fun e w' => e = .returned (.bool true) ∧ Below w.heap.size w w' := by
  have HLt := Lib.hid hlt
  clear hlt
  have HN := Lib.hid (NewQueue_walk w)
  go_enter Tryz.func58, Tryz.ntmps58
  go_wp2_with fail
  refine HN.out.mono ?_
  rintro e w1 ⟨rfl, hw1⟩
  have hQ1 : QAt w.heap.size w.heap.size (.slice none 0 0) [] 0 w1 := by rw [hw1]; exact qAt_new (Nat.le_refl _)
  have hB1 : Below w.heap.size w w1 := by rw [hw1]; exact below_alloc (Below.refl _ _) _
  have Q1 := Lib.hid hQ1
  have B1 := Lib.hid hB1
  clear hw1 hQ1 hB1
  go_wp2_with fail
  refine (num18 4611686018427387904 w1).mono ?_
  rintro e w2 ⟨rfl, hb2⟩
  have Q2 := Lib.hid (Q1.out.below hb2)
  have B2 := Lib.hid (B1.out.trans (hb2.mono B1.out.size))
  have P2 := Lib.hid (Push_walk lt HL w.heap.size w.heap.size _ _ _ 1 4611686018427387904 ⟨#[]⟩ 1 4611686018427387904 ⟨#[]⟩ rfl w2 Q2.out (fun e he => by cases he) (by unfold Sm; decide) (by decide) (by omega) h5 (HG.below B2.out))
  clear hb2
  go_wp2_with fail
  refine P2.out.mono ?_
  rintro e w3 ⟨rfl, v3, hQ3, hT3⟩
  have Q3 : Hid (QAt w.heap.size w.heap.size v3 [e2] 1 w3) := Lib.hid (by have h := hQ3; rw [show ((1 : Int), (4611686018427387904 : Int), (⟨#[]⟩ : ByteArray), (0 : Int)) = e2 from rfl, push1] at h; exact h)
  have B3 := Lib.hid (B2.out.trans hT3.below)
  clear hQ3 hT3 P2
  go_wp2_with fail
  refine (num18 4607182418800017408 w3).mono ?_
  rintro e w4 ⟨rfl, hb4⟩
  have Q4 := Lib.hid (Q3.out.below hb4)
  have B4 := Lib.hid (B3.out.trans (hb4.mono B3.out.size))
  have P4 := Lib.hid (Push_walk lt HL w.heap.size w.heap.size _ _ _ 1 4607182418800017408 ⟨#[]⟩ 1 4607182418800017408 ⟨#[]⟩ rfl w4 Q4.out (fun e he => by rw [List.mem_singleton.mp he]; unfold Sm; decide) (by unfold Sm; decide) (by decide) (by omega) h5 (HG.below B4.out))
  clear hb4
  go_wp2_with fail
  refine P4.out.mono ?_
  rintro e w5 ⟨rfl, v5, hQ5, hT5⟩
  have Q5 : Hid (QAt w.heap.size w.heap.size v5 [e1, e2] 2 w5) := Lib.hid (by have h := hQ5; rw [show ((1 : Int), (4607182418800017408 : Int), (⟨#[]⟩ : ByteArray), (1 : Int)) = e1 from rfl, push2 lt HLt.out] at h; exact h)
  have B5 := Lib.hid (B4.out.trans hT5.below)
  clear hQ5 hT5 P4
  obtain ⟨g1, c1, hv⟩ := own_form Q5.out.row (by decide)
  have Q5' := Q5.out
  rw [hv] at Q5'
  have P6' : Calls Tryz.prog 30 #[.pointer (some ⟨w.heap.size, 0, none⟩)] w5 fun e w' => e = .returned (.tuple #[vAgg 1 4607182418800017408 ⟨#[]⟩, .int .i64 1, .bool true]) ∧ ∃ v', QAt w.heap.size w.heap.size v' (pop lt [e1, e2]) 2 w' ∧ Turned w.heap.size w.heap.size (.slice (some ⟨g1, 0, none⟩) (1 + 1) c1) v' w5 w' := Pop_walk lt HL w.heap.size w.heap.size [e1, e2] 2 g1 1 c1 w5 Q5' rfl (fun e he => by rcases List.mem_cons.mp he with h | h; rw [h]; unfold Sm; decide; rw [List.mem_singleton.mp h]; unfold Sm; decide) (by decide) h5 (HG.below B5.out)
  have P6 := Lib.hid P6'
  clear P6'
  clear Q5' hv
  go_wp2_with fail
  refine P6.out.mono ?_
  rintro e w6 ⟨rfl, v6, hQ6, hT6⟩
  have Q6 := Lib.hid hQ6
  have B6 := Lib.hid (B5.out.trans hT6.below)
  clear hQ6 hT6 P6
  obtain ⟨W7, hW7⟩ : ∃ W7, W7 = w6.alloc (.cells #[.int .i64 1, .int .u64 4607182418800017408, .string ⟨#[]⟩] 29) := ⟨_, rfl⟩
  have hbx : W7.heap[w6.heap.size]? = some (.cells #[.int .i64 1, .int .u64 4607182418800017408, .string ⟨#[]⟩] 29 (0, 0)) := by rw [hW7]; exact blk_new _ _
  have hB7 : Below w6.heap.size w6 W7 := by rw [hW7]; exact below_alloc (Below.refl _ _) _
  have e0 : W7.cell? ⟨w6.heap.size, 0, none⟩ = some (.int .i64 1) := (blk_cell hbx 0).trans rfl
  have e1 : W7.cell? ⟨w6.heap.size, 1, none⟩ = some (.int .u64 4607182418800017408) := (blk_cell hbx 1).trans rfl
  have e2 : W7.cell? ⟨w6.heap.size, 2, none⟩ = some (.string ⟨#[]⟩) := (blk_cell hbx 2).trans rfl
  have Q7 := Lib.hid (Q6.out.below hB7)
  have B7 := Lib.hid (B6.out.trans (hB7.mono B6.out.size))
  have HL7 : ∀ wx, Below W7.heap.size W7 wx → Calls Tryz.prog 31 #[.pointer (some ⟨w.heap.size, 0, none⟩)] wx fun e w' => e = .returned (.int .i64 1) ∧ wx = w' := fun wx hb => by
    have h := Len_walk _ _ _ _ _ wx (Q7.out.below hb)
    rw [pop_length] at h
    exact h
  have HLL := Lib.hid HL7
  have HW7 := Lib.hid hW7
  clear hW7 hbx hB7 HL7
  go_upto_region 7 with fail
  rw [← HW7.out]
  go_cut [0] (fun s0 wx => s0 = .bool true ∧ Aside0 (Below w.heap.size w wx))
  case first =>
    go_region_with (first | (go_at_call 20; refine (num18 4607182418800017408 _).mono ?_; rintro e w8 ⟨rfl, hb8⟩; (have k0 := pw_cell_below ((pw_below_drewN (Below.refl _ _) _).trans hb8) e0); (have k1 := pw_cell_below ((pw_below_drewN (Below.refl _ _) _).trans hb8) e1); (have k2 := pw_cell_below ((pw_below_drewN (Below.refl _ _) _).trans hb8) e2)) | (go_at_call 31; refine (HLL.out _ (by first | exact (pw_below_drewN (Below.refl _ _) _).trans hb8)).mono ?_; rintro e w9 ⟨rfl, rfl⟩))
    all_goals
      go_wp2_with fail
      go_meet
      exact ⟨rfl, ⟨B7.out.trans (((pw_below_drewN (Below.refl _ _) _).trans hb8 : Below W7.heap.size W7 w8).mono B7.out.size)⟩⟩
  case rest =>
    obtain ⟨rfl, h1⟩ := hcut
    go_wp2_with fail
    go_ret
    exact ⟨rfl, h1.out⟩
end Go.Proofs.YtoanmnhkhookfaaGreatDoor
