/- RelateNothing, walked; conditions: awake answers true; each text is shorter than 2^62. -/
import Derived.Test.YtoanmnhkhookfaaGreatDoorNothing
namespace Go.Proofs.YtoanmnhkhookfaaGreatDoor
open Go.RowKit Go.Proofs.YtoanmnhkhookfaaGreatDoorW.PrintWords Go.Proofs.YtoanmnhkhookfaaGreatDoorW.PrintLast Heap
set_option linter.unusedVariables false
set_option linter.unusedSimpArgs false
set_option maxRecDepth 100000 in
set_option maxHeartbeats 8000000 in
theorem RelateNothing_walk (lt : Ent → Ent → Bool) (HL : Less lt) (A : Option Addr) (c : Nat) (vs : List Val) (w : World) (hv : VR w A vs) (hs : ∀ i, i < vs.length → (g vs i).2.2.size ≤ 4611686018427387904) (hl : vs.length < 4611686018427387904) (h5 : 5 ≤ w.heap.size) (HG : GW w)
    (HA : Calls Tryz.prog 15 #[] w fun e w' => e = .returned (.bool true) ∧ Below w.heap.size w w') :
    Calls Tryz.prog 8 #[.slice A vs.length c] w fun e w' => e = .returned (.bool true) ∧ Below w.heap.size w w' := by
  have HV := Lib.hid hv
  have HS := Lib.hid hs
  have HAw := Lib.hid HA
  have hlb : (vs.length : Int) < 4611686018427387904 := by omega
  clear hv hs HA
  go_enter Tryz.func8, Tryz.ntmps8
  go_wp2_with fail
  refine HAw.out.mono ?_
  rintro e w1 ⟨rfl, hb1⟩
  have B1 := Lib.hid hb1
  clear hb1
  go_wp2_with fail
  refine (NewQueue_walk w1).mono ?_
  rintro e w2 ⟨rfl, hw2⟩
  have h51 : 5 ≤ w1.heap.size := Nat.le_trans h5 B1.out.size
  obtain ⟨q, hq⟩ : ∃ q, q = w1.heap.size := ⟨_, rfl⟩
  have hQ2 : QAt w1.heap.size w1.heap.size (.slice none 0 0) [] 0 w2 := by rw [hw2]; exact qAt_new (Nat.le_refl _)
  have hB2 : Below w.heap.size w w2 := by rw [hw2]; exact below_alloc B1.out _
  rw [← hq] at hQ2 h51
  rw [← hq]
  have hwq : w.heap.size ≤ q := by rw [hq]; exact B1.out.size
  have Q2 := Lib.hid hQ2
  have B2 := Lib.hid hB2
  have HQ := Lib.hid hq
  clear hw2 hQ2 hB2 hq
  go_wp2_with fail
  go_loopg [6, 7, 8] vs.length (fun d s6 s7 s8 wx => ∃ (i : Nat) (v : Value), s6 = .int .i64 (i : Int) ∧ Aside0 (QAt q q v [] (i : Int) wx) ∧ Aside0 (Below w.heap.size w wx) ∧ Aside0 (d = vs.length - i) ∧ i ≤ vs.length)
  case atStart => exact ⟨0, .slice none 0 0, rfl, ⟨Q2.out⟩, ⟨B2.out⟩, ⟨rfl⟩, Nat.zero_le _⟩
  case round =>
    obtain ⟨i, v, rfl, R1, R2, R3, hi⟩ := hrel
    by_cases hlt : i < vs.length
    · have hd : decide ((i : Int) < (vs.length : Int)) = true := decide_eq_true (by omega)
      obtain ⟨ad, hA, x0, x1, x2⟩ := (HV.out.below R2.out) i hlt
      subst hA
      obtain ⟨X, hX⟩ : ∃ X, g vs i = X := ⟨_, rfl⟩
      rw [hX] at x0 x1 x2
      obtain ⟨xa, xb, xc⟩ := X
      have hsx : xc.size ≤ 4611686018427387904 := by have h := HS.out i hlt; rw [hX] at h; exact h
      have HSX := Lib.hid hsx
      clear hX hsx
      go_wp2_with fail
      refine (Push_nil xa xb xc _).mono ?_
      rintro e w3 ⟨rfl, hb3⟩
      have y0 := pw_cell_below hb3 x0
      have y1 := pw_cell_below hb3 x1
      have y2 := pw_cell_below hb3 x2
      have Q3 := Lib.hid (R1.out.below hb3)
      have B3 := Lib.hid (R2.out.trans (hb3.mono R2.out.size))
      clear hb3 x0 x1 x2
      obtain ⟨Z, hZ⟩ : ∃ Z, plainOf xa xb xc = Z := ⟨_, rfl⟩
      obtain ⟨pa, pb, pc⟩ := Z
      have hpz : Sm (pa, pb, pc, (i : Int)) := by
        have h := plain_size xa xb xc
        rw [hZ] at h
        exact Nat.le_trans h HSX.out
      have HP := Lib.hid (Push_walk lt HL q q v [] (i : Int) xa xb xc pa pb pc hZ w3 Q3.out (fun e he => by cases he) hpz (by decide) ⟨by omega, by omega⟩ h51 (HG.below B3.out))
      have HPZ := Lib.hid hpz
      clear hZ hpz
      go_wp2_with fail
      refine HP.out.mono ?_
      rintro e w4 ⟨rfl, v4, hQ4, hT4⟩
      rw [push_one] at hQ4
      have Q4 := Lib.hid hQ4
      have B4 := Lib.hid (B3.out.trans (hT4.below.mono hwq))
      clear hQ4 hT4 HP y0 y1 y2
      obtain ⟨g1, c1, hv1⟩ := own_form Q4.out.row (Nat.zero_lt_succ _)
      have Q4' := Q4.out
      rw [hv1] at Q4'
      have P5 := Lib.hid (Pop_walk lt HL q q [(pa, pb, pc, (i : Int))] ((i : Int) + 1) g1 0 c1 w4 Q4' rfl (fun e he => by rw [List.mem_singleton.mp he]; exact HPZ.out) (show 1 < 2147483648 by omega) h51 (HG.below B4.out))
      clear Q4' hv1
      go_wp2_with fail
      refine P5.out.mono ?_
      rintro e w5 ⟨rfl, v5, hQ5, hT5⟩
      rw [pop_one] at hQ5
      have Q5 := Lib.hid hQ5
      have B5 := Lib.hid (B4.out.trans (hT5.below.mono hwq))
      clear hQ5 hT5 P5
      go_wp2_with fail
      go_roundg (vs.length - (i + 1))
      case measure => rw [R3.out]; omega
      case rel => exact ⟨i + 1, v5, (by go_num), ⟨by have h := Q5.out; exact h⟩, ⟨B5.out⟩, ⟨rfl⟩, by omega⟩
    · obtain rfl : i = vs.length := by omega
      have hd : decide ((vs.length : Int) < (vs.length : Int)) = false := decide_eq_false (by omega)
      go_wp2_with fail
      refine (Pop_nil _).mono ?_
      rintro e w3 ⟨rfl, hb3⟩
      have Q3 := Lib.hid (R1.out.below hb3)
      have B3 := Lib.hid (R2.out.trans (hb3.mono R2.out.size))
      clear hb3
      go_wp2_with fail
      obtain ⟨O, hO⟩ : ∃ O : Obj, O = .cells #[.int .i64 0, .int .u64 0, .string ⟨#[]⟩] 29 := ⟨_, rfl⟩
      obtain ⟨W4, hW4⟩ : ∃ W4, W4 = w3.alloc (.cells #[.int .i64 0, .int .u64 0, .string ⟨#[]⟩] 29) := ⟨_, rfl⟩
      rw [← hW4]
      have k9 : W4.heap[w3.heap.size]? = some (.cells #[.int .i64 0, .int .u64 0, .string ⟨#[]⟩] 29 (0, 0)) := by rw [hW4]; exact blk_new _ _
      have hB4 : Below w3.heap.size w3 W4 := by rw [hW4]; exact below_alloc (Below.refl _ _) _
      have Q4 := Lib.hid (Q3.out.below hB4)
      have B4 := Lib.hid (B3.out.trans (hB4.mono B3.out.size))
      have K9 := Lib.hid k9
      clear hW4 hB4 k9
      refine (Peek_nil W4).mono ?_
      rintro e w5 ⟨rfl, hb5⟩
      have Q5 := Lib.hid (Q4.out.below hb5)
      have B5 := Lib.hid (B4.out.trans (hb5.mono B4.out.size))
      have K9b := Lib.hid (blk_below K9.out hb5)
      clear hb5
      go_wp2_with fail
      obtain ⟨W6, hW6⟩ : ∃ W6, W6 = w5.alloc (.cells #[.int .i64 0, .int .u64 0, .string ⟨#[]⟩] 29) := ⟨_, rfl⟩
      rw [← hW6]
      have k12 : W6.heap[w5.heap.size]? = some (.cells #[.int .i64 0, .int .u64 0, .string ⟨#[]⟩] 29 (0, 0)) := by rw [hW6]; exact blk_new _ _
      have hB6 : Below w5.heap.size w5 W6 := by rw [hW6]; exact below_alloc (Below.refl _ _) _
      have Q6 := Lib.hid (Q5.out.below hB6)
      have B6 := Lib.hid (B5.out.trans (hB6.mono B5.out.size))
      have K9c := Lib.hid (blk_below K9b.out hB6)
      have K12 := Lib.hid k12
      clear hW6 hB6 k12
      refine (Peek_empty q q v _ W6 Q6.out).mono ?_
      rintro e w7 ⟨rfl, hb7⟩
      have Q7 := Lib.hid (Q6.out.below hb7)
      have B7 := Lib.hid (B6.out.trans (hb7.mono B6.out.size))
      have K9d := Lib.hid (blk_below K9c.out hb7)
      have K12b := Lib.hid (blk_below K12.out hb7)
      clear hb7
      obtain ⟨W8, hW8⟩ : ∃ W8, W8 = w7.alloc (.cells #[.int .i64 0, .int .u64 0, .string ⟨#[]⟩] 29) := ⟨_, rfl⟩
      have hB8 : Below w7.heap.size w7 W8 := by rw [hW8]; exact below_alloc (Below.refl _ _) _
      have k9 := blk_below K9d.out hB8
      have k12 := blk_below K12b.out hB8
      have k15 : W8.heap[w7.heap.size]? = some (.cells #[.int .i64 0, .int .u64 0, .string ⟨#[]⟩] 29 (0, 0)) := by rw [hW8]; exact blk_new _ _
      have Q8 := Lib.hid (Q7.out.below hB8)
      have B8 := Lib.hid (B7.out.trans (hB8.mono B7.out.size))
      have a0 : W8.cell? ⟨w3.heap.size, 0, none⟩ = some (.int .i64 0) := (blk_cell k9 0).trans rfl
      have a1 : W8.cell? ⟨w3.heap.size, 1, none⟩ = some (.int .u64 0) := (blk_cell k9 1).trans rfl
      have a2 : W8.cell? ⟨w3.heap.size, 2, none⟩ = some (.string ⟨#[]⟩) := (blk_cell k9 2).trans rfl
      have b0 : W8.cell? ⟨w5.heap.size, 0, none⟩ = some (.int .i64 0) := (blk_cell k12 0).trans rfl
      have b1 : W8.cell? ⟨w5.heap.size, 1, none⟩ = some (.int .u64 0) := (blk_cell k12 1).trans rfl
      have b2 : W8.cell? ⟨w5.heap.size, 2, none⟩ = some (.string ⟨#[]⟩) := (blk_cell k12 2).trans rfl
      have d0 : W8.cell? ⟨w7.heap.size, 0, none⟩ = some (.int .i64 0) := (blk_cell k15 0).trans rfl
      have d1 : W8.cell? ⟨w7.heap.size, 1, none⟩ = some (.int .u64 0) := (blk_cell k15 1).trans rfl
      have d2 : W8.cell? ⟨w7.heap.size, 2, none⟩ = some (.string ⟨#[]⟩) := (blk_cell k15 2).trans rfl
      clear hB8 k9 k12 k15
      have HW8 := Lib.hid hW8
      clear hW8
      go_upto_region 17 with fail
      rw [← HW8.out]
      go_wp2_with fail
      refine (Len_nil W8).mono ?_
      rintro e w9 ⟨rfl, rfl⟩
      go_wp2_with fail
      refine (Len_walk q q v [] _ _ Q8.out).mono ?_
      rintro e w10 ⟨rfl, rfl⟩
      go_wp2_with fail
      go_ret
      exact ⟨rfl, B8.out⟩
end Go.Proofs.YtoanmnhkhookfaaGreatDoor
