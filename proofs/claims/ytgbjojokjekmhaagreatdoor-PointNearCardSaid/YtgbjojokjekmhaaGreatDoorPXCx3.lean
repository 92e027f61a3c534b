/- The machine's side of a law, printed by a program of this session out of the translation; conditions: none. -/
import Derived.Test.YtgbjojokjekmhaaGreatDoorPXCx0
import Derived.Test.YtgbjojokjekmhaaGreatDoorPXCx1
import Derived.Test.YtgbjojokjekmhaaGreatDoorPXCx2
namespace Go.Proofs.YtgbjojokjekmhaaGreatDoor.PXC
open Go.Proofs.YtgbjojokjekmhaaGreatDoor
open Go.RowKit Go.Proofs.YtgbjojokjekmhaaGreatDoorW.PrintWords Go.Proofs.YtgbjojokjekmhaaGreatDoorW.PrintLast Go.Proofs.YtgbjojokjekmhaaGreatDoorW.PrintMore
attribute [local go_sem] max2_int min2_int max_two min_two max_three min_three max_four min_four   -- for this text's walks alone
set_option linter.unusedVariables false
set_option linter.unusedSimpArgs false

theorem phCx3_1 {P : Prop} (h : P := by repeat (first | (with_reducible first | exact HB.out | apply below_alloc | apply pw_below_drewN | apply below_drew1 | refine below_set ?_ GE114.out) | exact HB.out)) : P := h
theorem phCx3_2 {P : Prop} (h : P := by (with_reducible repeat (first | refine blk_drewN ?_ _ | refine blk_drew ?_ | refine blk_alloc ?_ _)); exact BK114.out) : P := h
theorem phCx3_10 {P : Prop} (h : P := by repeat (first | exact Below.refl _ _ | apply below_alloc | apply pw_below_drewN | refine below_set ?_ (Nat.le_refl _))) : P := h
/-! ### point_Special: function 17 -/
mutual
def point_Special.j0 : Nat → Int → ByteArray → Int → Int → Int → Int → Option (ByteArray × Bool × Int)
  | 0, _, _, _, _, _, _ => none
  | k + 1, x1, x8, x115000, x115001, x115002, x115003 => if x115000 = 69 then (point_Special.j1 k x1 x8 (x115000 == 69) x115000 x115001 x115002 x115003) else (if x115000 = 70 then (point_Special.j1 k x1 x8 (x115000 == 70) x115000 x115001 x115002 x115003) else (if x115000 = 71 then (point_Special.j1 k x1 x8 (x115000 == 71) x115000 x115001 x115002 x115003) else (point_Special.j1 k x1 x8 (x115000 == 88) x115000 x115001 x115002 x115003)))
def point_Special.j1 : Nat → Int → ByteArray → Bool → Int → Int → Int → Int → Option (ByteArray × Bool × Int)
  | 0, _, _, _, _, _, _, _ => none
  | k + 1, x1, x8, x24, x115000, x115001, x115002, x115003 => if x24 = true then ((strings_ToUpper.f x8).bind fun t117 => ((point_head.f x115000 x115001 x115002 x115003 x1).bind fun t118 => ((point_pad.f k x115000 x115001 x115002 x115003 t118 t117 false).bind fun bt119 => (some (bt119.1, (bt119.2 == 0), bt119.2))))) else ((point_head.f x115000 x115001 x115002 x115003 x1).bind fun t121 => ((point_pad.f k x115000 x115001 x115002 x115003 t121 x8 false).bind fun bt122 => (some (bt122.1, (bt122.2 == 0), bt122.2))))
end
def point_Special.f (k : Nat) (a0_0 : Int) (a0_1 : Int) (a0_2 : Int) (a0_3 : Int) (a1 : Int) : Option (ByteArray × Bool × Int) := (point_look.f k a0_0 a0_1 a0_2 a0_3).bind fun t115 => (if t115 = 0 then ((ieee_Class.f a1).bind fun t116 => (if t116 = 4 then (point_Special.j0 k a1 (⟨#[110, 97, 110]⟩ : ByteArray) a0_0 a0_1 a0_2 a0_3) else (if t116 = 3 then (point_Special.j0 k a1 (⟨#[105, 110, 102]⟩ : ByteArray) a0_0 a0_1 a0_2 a0_3) else (some ((⟨#[]⟩ : ByteArray), false, 0))))) else (some ((⟨#[]⟩ : ByteArray), false, t115)))
def point_Special.T17 : Bool × List (List Nat × List Nat) := (true, [([], []), ([], []), ([], []), ([1, 2], [1, 2]), ([], []), ([0, 3, 4, 3], [0, 3, 4]), ([5], [5]), ([6], [6]), ([6], [6]), ([7, 5, 0, 1, 2, 3, 4, 5, 6, 7], [7]), ([8, 9, 0, 1, 2, 3, 4, 5, 6, 7, 8, 9], [8])])
def point_Special.B17 : List Nat := [0, 0, 0, 6, 0, 31, 63, 127, 127, 255, 1023]
theorem point_Special.tab17 : rtab .any (opsOf Tryz.f17 17) = point_Special.T17 := by kernel_rfl
theorem point_Special.bits17 : waitsOk point_Special.T17.2 point_Special.B17 = true := by kernel_rfl
set_option maxHeartbeats 8000000 in
set_option maxRecDepth 100000 in
theorem point_Special.calls (k : Nat) (a0_0 : Int) (a0_1 : Int) (a0_2 : Int) (a0_3 : Int) (a1 : Int) (r1 : ByteArray) (r2 : Bool) (r3 : Int) (w : World) (h : point_Special.f k a0_0 a0_1 a0_2 a0_3 a1 = some (r1, r2, r3)) (HG : Aside0 (GW w) := by exact pz5) :
    Calls Tryz.prog 17 #[.agg #[.int .u8 a0_0, .int .i64 a0_1, .int .i64 a0_2, .int .i64 a0_3], .int .u64 a1] w fun e w' => e = .returned (.tuple #[.string r1, .bool r2, .int .i64 r3]) ∧ Below w.heap.size w w' := by
  have hu23 := Tryz.underlying23; have HB := Aside0.mk (Below.refl w.heap.size w); have H := h; clear h; unfold point_Special.f at H; replace H := Option.bind_eq_some_iff.mp H; obtain ⟨t115, A30, H⟩ := H; (try dsimp only at H); have A3 := Aside0.mk A30; clear A30; by_cases c4 : t115 = 0
  · rw [if_pos c4] at H
    have c4b0 := beq_iff_eq.mpr c4; have c4b1 := bne_eq_false_iff_eq.mpr c4; clear c4; replace H := Option.bind_eq_some_iff.mp H; obtain ⟨t116, A50, H⟩ := H; (try dsimp only at H); have A5 := Aside0.mk A50; clear A50; have HC6 := Aside0.mk H; clear H; go_enter Tryz.func17, Tryz.ntmps17; go_upto_block 0 with (first | ((with_reducible refine gate_dst (N := 2) rfl ?_); refine box_event ?hg (N := 2) ?hd (cs := #[.int .u8 a0_0, .int .i64 a0_1, .int .i64 a0_2, .int .i64 a0_3]) (t := 23) ?hr ?_; (case hd => rfl); (case hg => rfl); (case hr => first | (go_simp; done) | (go_simp; rfl)); intro gb114 hg w7 hbox hb; have n0_ := Aside0.mk (below_step (by exact pz1) hb); have n1_ := Aside0.mk (hbox); have n2_ := Aside0.mk ((by rw [hg]; exact (below_size (by exact pz1)) : w.heap.size ≤ gb114)); have n3_ := Aside0.mk ((by rw [hg]; exact (below_size (by exact pz1)) : w.heap.size ≤ gb114)); clear HB; have HB := n0_; have BK114 := n1_; have GW114 := n2_; have GE114 := n3_; clear n0_ n1_ n2_ n3_; clear hb hbox hg; obtain ⟨hcz8_0, hcz8_1, hcz8_2, hcz8_3, hfz8_0, hfz8_1, hfz8_2, hfz8_3⟩ := bk4 BK114.out) | ((with_reducible refine gate_callee (f := 50) rfl ?_); refine goesL_ (some 12) rfl rfl Tryz.func50 (by kernel_rfl) rfl #[.agg #[.int .u8 a0_0, .int .i64 a0_1, .int .i64 a0_2, .int .i64 a0_3]] rfl (by exact pz4) ?_; (with_reducible refine (point_look.calls k a0_0 a0_1 a0_2 a0_3 t115 _ A3.out).mono ?_); rintro e w9 ⟨rfl, hb⟩; refine ⟨_, rfl, ?_⟩; have n0_ := Aside0.mk (blk_below (g := gb114) (o := .cells #[.int .u8 a0_0, .int .i64 a0_1, .int .i64 a0_2, .int .i64 a0_3] 23 (0, 0)) (by exact phCx3_2) hb); have n1_ := Aside0.mk (below_step (by exact phCx3_1) hb); clear BK114; clear HB; have BK114 := n0_; have HB := n1_; clear n0_ n1_; (try clear hb); ) | ((with_reducible refine gate_callee (f := 51) rfl ?_); refine goesL_ (some 17) rfl rfl Tryz.func51 (by kernel_rfl) rfl #[.int .u64 a1] rfl (by exact pz4) ?_; (with_reducible refine (ieee_Class.calls a1 t116 _ A5.out).mono ?_); rintro e w' ⟨rfl, ⟨nd, rfl⟩⟩; refine ⟨_, rfl, ?_⟩))
    (try simp only [Act.put, List.setIfInBounds_toArray, List.set_cons_zero, List.set_cons_succ])
    go_cut [8] (fun v8 wc => ∃ (kq : Nat) (x8_5 : ByteArray), v8 = .string x8_5 ∧ Aside0 (point_Special.j0 kq a1 x8_5 a0_0 a0_1 a0_2 a0_3 = some (r1, r2, r3)) ∧ Aside0 (kq ≤ k) ∧ Aside0 (wc.heap[gb114]? = some (.cells #[.int .u8 a0_0, .int .i64 a0_1, .int .i64 a0_2, .int .i64 a0_3] 23 (0, 0))) ∧ Aside0 (Below w.heap.size w wc))
    case first =>
      have H := HC6.out; clear HC6; by_cases c10 : t116 = 4
      · rw [if_pos c10] at H
        have c10b0 := beq_iff_eq.mpr c10; have c10b1 := bne_eq_false_iff_eq.mpr c10; clear c10; (first | rw [c10b0] | (simp only [i64_w, i32_w]; rw [c10b0]) | skip)
        have H' := Aside0.mk H; clear H; go_wp2; go_meet
        case rel => exact ⟨_, ((⟨#[110, 97, 110]⟩ : ByteArray)), (by exact pz3), H', ⟨by first | omega | exact Nat.le_refl _⟩, ⟨by exact phCx3_2⟩, ⟨by exact phCx3_1⟩⟩
      rw [if_neg c10] at H; have c10b0 := beq_eq_false_iff_ne.mpr c10; have c10b1 := bne_iff_ne.mpr c10; (first | rw [c10b0] | (simp only [i64_w, i32_w]; rw [c10b0]) | skip)
      by_cases c11 : t116 = 3
      · rw [if_pos c11] at H
        have c11b0 := beq_iff_eq.mpr c11; have c11b1 := bne_eq_false_iff_eq.mpr c11; clear c11; have H' := Aside0.mk H; clear H; go_wp2; go_meet
        case rel => exact ⟨_, ((⟨#[105, 110, 102]⟩ : ByteArray)), (by exact pz3), H', ⟨by first | omega | exact Nat.le_refl _⟩, ⟨by exact phCx3_2⟩, ⟨by exact phCx3_1⟩⟩
      rw [if_neg c11] at H; have c11b0 := beq_eq_false_iff_ne.mpr c11; have c11b1 := bne_iff_ne.mpr c11; simp only [Option.some.injEq, Prod.mk.injEq] at H; obtain ⟨rfl, rfl, rfl⟩ := H; go_wp2; go_ret3
      exact ⟨by exact pz2, by exact phCx3_1⟩
    case rest =>
      clear HC6; (try clear c4); (try clear c4b0); (try clear c4b1); (try clear hcz8_0); (try clear hcz8_1); (try clear hcz8_2); (try clear hcz8_3); (try clear hfz8_0); (try clear hfz8_1); (try clear hfz8_2); (try clear hfz8_3); obtain ⟨kq, x8_5, rfl, HA, HJ5, BK114, HB⟩ := hcut; cases kq with
      | zero => exact absurd HA.out (by simp [point_Special.j0])
      | succ kj5 =>
        have H := HA.out; clear HA; simp only [point_Special.j0] at H; have HC12 := Aside0.mk H; clear H; obtain ⟨hcz13_0, hcz13_1, hcz13_2, hcz13_3, hfz13_0, hfz13_1, hfz13_2, hfz13_3⟩ := bk4 BK114.out; go_upto_if 24 with (fail)
        go_cut [24] (fun v24 wc => ∃ (kq : Nat) (x24_11 : Bool), v24 = .bool x24_11 ∧ Aside0 (point_Special.j1 kq a1 x8_5 x24_11 a0_0 a0_1 a0_2 a0_3 = some (r1, r2, r3)) ∧ Aside0 (kq ≤ kj5) ∧ Aside0 (wc.heap[gb114]? = some (.cells #[.int .u8 a0_0, .int .i64 a0_1, .int .i64 a0_2, .int .i64 a0_3] 23 (0, 0))) ∧ Aside0 (Below w.heap.size w wc))
        case first =>
          have H := HC12.out; clear HC12; by_cases c14 : a0_0 = 69
          · rw [if_pos c14] at H
            have c14b0 := beq_iff_eq.mpr c14; have c14b1 := bne_eq_false_iff_eq.mpr c14; clear c14; (first | rw [c14b0] | (simp only [i64_w, i32_w]; rw [c14b0]) | skip)
            have H' := Aside0.mk H; clear H; go_wp2; go_meet
            case rel => exact ⟨_, ((a0_0 == 69)), (by exact pz3), H', ⟨by have := HJ5.out; first | omega | exact Nat.le_refl _⟩, ⟨by exact phCx3_2⟩, ⟨by exact phCx3_1⟩⟩
          rw [if_neg c14] at H; have c14b0 := beq_eq_false_iff_ne.mpr c14; have c14b1 := bne_iff_ne.mpr c14; (first | rw [c14b0] | (simp only [i64_w, i32_w]; rw [c14b0]) | skip)
          by_cases c15 : a0_0 = 70
          · rw [if_pos c15] at H
            have c15b0 := beq_iff_eq.mpr c15; have c15b1 := bne_eq_false_iff_eq.mpr c15; clear c15; have H' := Aside0.mk H; clear H; go_wp2; go_meet
            case rel => exact ⟨_, ((a0_0 == 70)), (by exact pz3), H', ⟨by have := HJ5.out; first | omega | exact Nat.le_refl _⟩, ⟨by exact phCx3_2⟩, ⟨by exact phCx3_1⟩⟩
          rw [if_neg c15] at H; have c15b0 := beq_eq_false_iff_ne.mpr c15; have c15b1 := bne_iff_ne.mpr c15; by_cases c16 : a0_0 = 71
          · rw [if_pos c16] at H
            have c16b0 := beq_iff_eq.mpr c16; have c16b1 := bne_eq_false_iff_eq.mpr c16; clear c16; have H' := Aside0.mk H; clear H; go_wp2; go_meet
            case rel => exact ⟨_, ((a0_0 == 71)), (by exact pz3), H', ⟨by have := HJ5.out; first | omega | exact Nat.le_refl _⟩, ⟨by exact phCx3_2⟩, ⟨by exact phCx3_1⟩⟩
          rw [if_neg c16] at H; have c16b0 := beq_eq_false_iff_ne.mpr c16; have c16b1 := bne_iff_ne.mpr c16; have H' := Aside0.mk H; clear H; go_wp2; go_meet
          case rel => exact ⟨_, ((a0_0 == 88)), (by exact pz3), H', ⟨by have := HJ5.out; first | omega | exact Nat.le_refl _⟩, ⟨by exact phCx3_2⟩, ⟨by exact phCx3_1⟩⟩
        case rest =>
          clear HC12; (try clear c4); (try clear c4b0); (try clear c4b1); (try clear hcz13_0); (try clear hcz13_1); (try clear hcz13_2); (try clear hcz13_3); (try clear hcz8_0); (try clear hcz8_1); (try clear hcz8_2); (try clear hcz8_3); (try clear hfz13_0); (try clear hfz13_1); (try clear hfz13_2); (try clear hfz13_3); (try clear hfz8_0); (try clear hfz8_1); (try clear hfz8_2); (try clear hfz8_3); obtain ⟨kq, x24_11, rfl, HA, HJ11, BK114, HB⟩ := hcut; cases kq with
          | zero => exact absurd HA.out (by simp [point_Special.j1])
          | succ kj11 =>
            have H := HA.out; clear HA; simp only [point_Special.j1] at H; by_cases c17 : x24_11 = true
            · subst c17
              rw [if_pos rfl] at H; replace H := Option.bind_eq_some_iff.mp H; obtain ⟨t117, A180, H⟩ := H; (try dsimp only at H); have A18 := Aside0.mk A180; clear A180; replace H := Option.bind_eq_some_iff.mp H; obtain ⟨t118, A190, H⟩ := H; (try dsimp only at H); have A19 := Aside0.mk A190; clear A190; replace H := Option.bind_eq_some_iff.mp H; obtain ⟨⟨t119, t120⟩, A200, H⟩ := H; (try dsimp only at H); have A20 := Aside0.mk A200; clear A200; simp only [Option.some.injEq, Prod.mk.injEq] at H; obtain ⟨rfl, rfl, rfl⟩ := H; (try go_wp2_with (first | ((with_reducible refine gate_callee (f := 52) rfl ?_); refine goesL_ (some 30) rfl rfl Tryz.func52 (by kernel_rfl) rfl #[.string x8_5] rfl (by exact pz4) ?_; (with_reducible refine (strings_ToUpper.calls x8_5 t117 _ A18.out).mono ?_); rintro e w21 ⟨rfl, hb⟩; refine ⟨_, rfl, ?_⟩; have n0_ := Aside0.mk (blk_below (g := gb114) (o := .cells #[.int .u8 a0_0, .int .i64 a0_1, .int .i64 a0_2, .int .i64 a0_3] 23 (0, 0)) (by exact phCx3_2) hb); have n1_ := Aside0.mk (below_step (by exact phCx3_1) hb); clear BK114; clear HB; have BK114 := n0_; have HB := n1_; clear n0_ n1_; (try clear hb); ))); have n0_ := Aside0.mk (blk_drew BK114.out); have n1_ := Aside0.mk (below_drew1 HB.out); clear BK114; clear HB; have BK114 := n0_; have HB := n1_; clear n0_ n1_; refine start_ (n := 11) (S := fun w' => w'.cell? ⟨gb114, 0, none⟩ = some (.int .u8 a0_0) ∧ w'.cell? ⟨gb114, 1, none⟩ = some (.int .i64 a0_1) ∧ w'.cell? ⟨gb114, 2, none⟩ = some (.int .i64 a0_2) ∧ w'.cell? ⟨gb114, 3, none⟩ = some (.int .i64 a0_3)) (ds := []) #[false, false, false, false, false, false, false, false, false, false, false] (by kernel_rfl) rfl rfl ⟨(blk_cell BK114.out 0).trans rfl, (blk_cell BK114.out 1).trans rfl, (blk_cell BK114.out 2).trans rfl, (blk_cell BK114.out 3).trans rfl⟩ (fun hHeld => ?_); refine with_tabW point_Special.tab17 point_Special.bits17 (fun HT_ HW_ => ?_); generalize w21.drew = w22 at BK114 HB hHeld ⊢; refine pure_ (i := 2) (N := some 34) (v := ?_) (a' := ?_) #[false, false, true, false, false, false, false, false, false, false, false] rfl rfl (any_of HT_.out (by kernel_rfl)) (fun _ _ _ h => h) (Or.inl ⟨by rfl, ?_⟩) ?_ ?_; rotate_left
              · intro w'
                go_simp
                with_reducible rfl
              rotate_left
              · simp only [Act.put, List.setIfInBounds_toArray, List.set_cons_zero, List.set_cons_succ, i64_w, i32_w]
                rfl
              refine pure_ (i := 4) (N := some 36) (v := ?_) (a' := ?_) #[false, false, true, false, true, false, false, false, false, false, false] rfl rfl (any_of HT_.out (by kernel_rfl)) (fun _ _ _ h => h) (Or.inl ⟨by rfl, ?_⟩) ?_ ?_; rotate_left
              · intro w'
                go_simp
                with_reducible rfl
              rotate_left
              · simp only [Act.put, List.setIfInBounds_toArray, List.set_cons_zero, List.set_cons_succ, i64_w, i32_w]
                rfl
              refine take_ (i := 0) (N := some 32) (v := ?_) (a' := ?_) #[true, false, true, false, true, false, false, false, false, false, false] rfl rfl (take_ofW HT_.out HW_.out (by kernel_rfl)) (fun _ _ _ h => h) (Or.inl ⟨by rfl, ?_⟩) hHeld ?_ ?_; rotate_left
              · rintro w' ⟨s0, s1, s2, s3⟩
                go_simp
                with_reducible rfl
              rotate_left
              · simp only [Act.put, List.setIfInBounds_toArray, List.set_cons_zero, List.set_cons_succ, i64_w, i32_w]
                rfl
              refine take_ (i := 1) (N := some 33) (v := ?_) (a' := ?_) #[true, true, true, false, true, false, false, false, false, false, false] rfl rfl (take_ofW HT_.out HW_.out (by kernel_rfl)) (fun _ _ _ h => h) (Or.inl ⟨by rfl, ?_⟩) hHeld ?_ ?_; rotate_left
              · rintro w' ⟨s0, s1, s2, s3⟩
                go_simp
                with_reducible rfl
              rotate_left
              · simp only [Act.put, List.setIfInBounds_toArray, List.set_cons_zero, List.set_cons_succ, i64_w, i32_w]
                rfl
              refine one_ (i := 3) (N := some 35) #[true, true, true, true, true, false, false, false, false, false, false] rfl rfl (one_of HT_.out (by kernel_rfl)) (by decide) (fun K hK => ?_); refine goes_ Tryz.func49 (by kernel_rfl) rfl #[.agg #[.int .u8 a0_0, .int .i64 a0_1, .int .i64 a0_2, .int .i64 a0_3], .int .u64 a1] (by rfl) rfl rfl (by exact pz4) ?_; with_reducible refine (point_head.calls a0_0 a0_1 a0_2 a0_3 a1 t118 _ A19.out).mono ?_
              rintro e w23 ⟨rfl, hb⟩; refine ⟨_, rfl, ?_⟩; have n0_ := Aside0.mk (blk_below (g := gb114) (o := .cells #[.int .u8 a0_0, .int .i64 a0_1, .int .i64 a0_2, .int .i64 a0_3] 23 (0, 0)) (by exact phCx3_2) hb); have n1_ := Aside0.mk (below_step (by exact phCx3_1) hb); clear BK114; clear HB; have BK114 := n0_; have HB := n1_; clear n0_ n1_; (try clear hb)
              refine hK.out _ _ ⟨(blk_cell BK114.out 0).trans rfl, (blk_cell BK114.out 1).trans rfl, (blk_cell BK114.out 2).trans rfl, (blk_cell BK114.out 3).trans rfl⟩ (fun hHeld => ?_); clear hK K; refine norm_ (a' := ?_) ?_ ?_; rotate_left
              · show Act.put _ (some 35) _ = _
                simp only [Act.put, List.setIfInBounds_toArray, List.set_cons_zero, List.set_cons_succ, i64_w, i32_w]; rfl
              refine one_ (i := 5) (N := some 37) #[true, true, true, true, true, true, false, false, false, false, false] rfl rfl (one_of HT_.out (by kernel_rfl)) (by decide) (fun K hK => ?_); refine goes_ Tryz.func48 (by kernel_rfl) rfl #[.agg #[.int .u8 a0_0, .int .i64 a0_1, .int .i64 a0_2, .int .i64 a0_3], .string t118, .string t117, .bool false] (by rfl) rfl rfl (by exact pz4) ?_; with_reducible refine (point_pad.calls kj11 a0_0 a0_1 a0_2 a0_3 t118 t117 false t119 t120 _ A20.out).mono ?_
              rintro e w24 ⟨rfl, hb⟩; refine ⟨_, rfl, ?_⟩; have n0_ := Aside0.mk (blk_below (g := gb114) (o := .cells #[.int .u8 a0_0, .int .i64 a0_1, .int .i64 a0_2, .int .i64 a0_3] 23 (0, 0)) (by exact phCx3_2) hb); have n1_ := Aside0.mk (below_step (by exact phCx3_1) hb); clear BK114; clear HB; have BK114 := n0_; have HB := n1_; clear n0_ n1_; (try clear hb)
              refine hK.out _ _ ⟨(blk_cell BK114.out 0).trans rfl, (blk_cell BK114.out 1).trans rfl, (blk_cell BK114.out 2).trans rfl, (blk_cell BK114.out 3).trans rfl⟩ (fun hHeld => ?_); clear hK K; refine norm_ (a' := ?_) ?_ ?_; rotate_left
              · show Act.put _ (some 37) _ = _
                simp only [Act.put, List.setIfInBounds_toArray, List.set_cons_zero, List.set_cons_succ, i64_w, i32_w]; rfl
              refine pure_ (i := 6) (N := some 31) (v := ?_) (a' := ?_) #[true, true, true, true, true, true, true, false, false, false, false] rfl rfl (any_of HT_.out (by kernel_rfl)) (fun _ _ _ h => h) (Or.inl ⟨by rfl, ?_⟩) ?_ ?_; rotate_left
              · intro w'
                go_simp
                with_reducible rfl
              rotate_left
              · simp only [Act.put, List.setIfInBounds_toArray, List.set_cons_zero, List.set_cons_succ, i64_w, i32_w]
                rfl
              refine pure_ (i := 7) (N := some 38) (v := ?_) (a' := ?_) #[true, true, true, true, true, true, true, true, false, false, false] rfl rfl (any_of HT_.out (by kernel_rfl)) (fun _ _ _ h => h) (Or.inl ⟨by rfl, ?_⟩) ?_ ?_; rotate_left
              · intro w'
                go_simp
                with_reducible rfl
              rotate_left
              · simp only [Act.put, List.setIfInBounds_toArray, List.set_cons_zero, List.set_cons_succ, i64_w, i32_w]
                rfl
              refine pure_ (i := 8) (N := some 39) (v := ?_) (a' := ?_) #[true, true, true, true, true, true, true, true, true, false, false] rfl rfl (any_of HT_.out (by kernel_rfl)) (fun _ _ _ h => h) (Or.inl ⟨by rfl, ?_⟩) ?_ ?_; rotate_left
              · intro w'
                go_simp
                with_reducible rfl
              rotate_left
              · simp only [Act.put, List.setIfInBounds_toArray, List.set_cons_zero, List.set_cons_succ, i64_w, i32_w]
                rfl
              refine pure_ (i := 9) (N := some 9) (v := ?_) (a' := ?_) #[true, true, true, true, true, true, true, true, true, true, false] rfl rfl (any_of HT_.out (by kernel_rfl)) (fun _ _ _ h => h) (Or.inl ⟨by rfl, ?_⟩) ?_ ?_; rotate_left
              · intro w'
                go_simp
                with_reducible rfl
              rotate_left
              · simp only [Act.put, List.setIfInBounds_toArray, List.set_cons_zero, List.set_cons_succ, i64_w, i32_w]
                rfl
              refine pure_ (i := 10) (N := some 10) (v := ?_) (a' := ?_) #[true, true, true, true, true, true, true, true, true, true, true] rfl rfl (any_of HT_.out (by kernel_rfl)) (fun _ _ _ h => h) (Or.inl ⟨by rfl, ?_⟩) ?_ ?_; rotate_left
              · intro w'
                go_simp
                with_reducible rfl
              rotate_left
              · simp only [Act.put, List.setIfInBounds_toArray, List.set_cons_zero, List.set_cons_succ, i64_w, i32_w]
                rfl
              refine done_ (done_of HT_.out (by kernel_rfl)) ?_; (try go_wp2); go_ret3
              exact ⟨by exact pz2, by exact phCx3_1⟩
            replace c17 := Bool.eq_false_iff.mpr c17; subst c17; rw [if_neg (show ¬ (false = true) by decide)] at H; replace H := Option.bind_eq_some_iff.mp H; obtain ⟨t121, A250, H⟩ := H; (try dsimp only at H); have A25 := Aside0.mk A250; clear A250; replace H := Option.bind_eq_some_iff.mp H; obtain ⟨⟨t122, t123⟩, A260, H⟩ := H; (try dsimp only at H); have A26 := Aside0.mk A260; clear A260; simp only [Option.some.injEq, Prod.mk.injEq] at H; obtain ⟨rfl, rfl, rfl⟩ := H; (try go_wp2); have n0_ := Aside0.mk (blk_drew BK114.out); have n1_ := Aside0.mk (below_drew1 HB.out); clear BK114; clear HB; have BK114 := n0_; have HB := n1_; clear n0_ n1_; refine start_ (n := 11) (S := fun w' => w'.cell? ⟨gb114, 0, none⟩ = some (.int .u8 a0_0) ∧ w'.cell? ⟨gb114, 1, none⟩ = some (.int .i64 a0_1) ∧ w'.cell? ⟨gb114, 2, none⟩ = some (.int .i64 a0_2) ∧ w'.cell? ⟨gb114, 3, none⟩ = some (.int .i64 a0_3)) (ds := []) #[false, false, false, false, false, false, false, false, false, false, false] (by kernel_rfl) rfl rfl ⟨(blk_cell BK114.out 0).trans rfl, (blk_cell BK114.out 1).trans rfl, (blk_cell BK114.out 2).trans rfl, (blk_cell BK114.out 3).trans rfl⟩ (fun hHeld => ?_); refine with_tabW point_Special.tab17 point_Special.bits17 (fun HT_ HW_ => ?_); generalize wc.drew = w27 at BK114 HB hHeld ⊢; refine pure_ (i := 2) (N := some 34) (v := ?_) (a' := ?_) #[false, false, true, false, false, false, false, false, false, false, false] rfl rfl (any_of HT_.out (by kernel_rfl)) (fun _ _ _ h => h) (Or.inl ⟨by rfl, ?_⟩) ?_ ?_; rotate_left
            · intro w'
              go_simp
              with_reducible rfl
            rotate_left
            · simp only [Act.put, List.setIfInBounds_toArray, List.set_cons_zero, List.set_cons_succ, i64_w, i32_w]
              rfl
            refine pure_ (i := 4) (N := some 36) (v := ?_) (a' := ?_) #[false, false, true, false, true, false, false, false, false, false, false] rfl rfl (any_of HT_.out (by kernel_rfl)) (fun _ _ _ h => h) (Or.inl ⟨by rfl, ?_⟩) ?_ ?_; rotate_left
            · intro w'
              go_simp
              with_reducible rfl
            rotate_left
            · simp only [Act.put, List.setIfInBounds_toArray, List.set_cons_zero, List.set_cons_succ, i64_w, i32_w]
              rfl
            refine take_ (i := 0) (N := some 32) (v := ?_) (a' := ?_) #[true, false, true, false, true, false, false, false, false, false, false] rfl rfl (take_ofW HT_.out HW_.out (by kernel_rfl)) (fun _ _ _ h => h) (Or.inl ⟨by rfl, ?_⟩) hHeld ?_ ?_; rotate_left
            · rintro w' ⟨s0, s1, s2, s3⟩
              go_simp
              with_reducible rfl
            rotate_left
            · simp only [Act.put, List.setIfInBounds_toArray, List.set_cons_zero, List.set_cons_succ, i64_w, i32_w]
              rfl
            refine take_ (i := 1) (N := some 33) (v := ?_) (a' := ?_) #[true, true, true, false, true, false, false, false, false, false, false] rfl rfl (take_ofW HT_.out HW_.out (by kernel_rfl)) (fun _ _ _ h => h) (Or.inl ⟨by rfl, ?_⟩) hHeld ?_ ?_; rotate_left
            · rintro w' ⟨s0, s1, s2, s3⟩
              go_simp
              with_reducible rfl
            rotate_left
            · simp only [Act.put, List.setIfInBounds_toArray, List.set_cons_zero, List.set_cons_succ, i64_w, i32_w]
              rfl
            refine one_ (i := 3) (N := some 35) #[true, true, true, true, true, false, false, false, false, false, false] rfl rfl (one_of HT_.out (by kernel_rfl)) (by decide) (fun K hK => ?_); refine goes_ Tryz.func49 (by kernel_rfl) rfl #[.agg #[.int .u8 a0_0, .int .i64 a0_1, .int .i64 a0_2, .int .i64 a0_3], .int .u64 a1] (by rfl) rfl rfl (by exact pz4) ?_; with_reducible refine (point_head.calls a0_0 a0_1 a0_2 a0_3 a1 t121 _ A25.out).mono ?_
            rintro e w28 ⟨rfl, hb⟩; refine ⟨_, rfl, ?_⟩; have n0_ := Aside0.mk (blk_below (g := gb114) (o := .cells #[.int .u8 a0_0, .int .i64 a0_1, .int .i64 a0_2, .int .i64 a0_3] 23 (0, 0)) (by exact phCx3_2) hb); have n1_ := Aside0.mk (below_step (by exact phCx3_1) hb); clear BK114; clear HB; have BK114 := n0_; have HB := n1_; clear n0_ n1_; (try clear hb)
            refine hK.out _ _ ⟨(blk_cell BK114.out 0).trans rfl, (blk_cell BK114.out 1).trans rfl, (blk_cell BK114.out 2).trans rfl, (blk_cell BK114.out 3).trans rfl⟩ (fun hHeld => ?_); clear hK K; refine norm_ (a' := ?_) ?_ ?_; rotate_left
            · show Act.put _ (some 35) _ = _
              simp only [Act.put, List.setIfInBounds_toArray, List.set_cons_zero, List.set_cons_succ, i64_w, i32_w]; rfl
            refine one_ (i := 5) (N := some 37) #[true, true, true, true, true, true, false, false, false, false, false] rfl rfl (one_of HT_.out (by kernel_rfl)) (by decide) (fun K hK => ?_); refine goes_ Tryz.func48 (by kernel_rfl) rfl #[.agg #[.int .u8 a0_0, .int .i64 a0_1, .int .i64 a0_2, .int .i64 a0_3], .string t121, .string x8_5, .bool false] (by rfl) rfl rfl (by exact pz4) ?_; with_reducible refine (point_pad.calls kj11 a0_0 a0_1 a0_2 a0_3 t121 x8_5 false t122 t123 _ A26.out).mono ?_
            rintro e w29 ⟨rfl, hb⟩; refine ⟨_, rfl, ?_⟩; have n0_ := Aside0.mk (blk_below (g := gb114) (o := .cells #[.int .u8 a0_0, .int .i64 a0_1, .int .i64 a0_2, .int .i64 a0_3] 23 (0, 0)) (by exact phCx3_2) hb); have n1_ := Aside0.mk (below_step (by exact phCx3_1) hb); clear BK114; clear HB; have BK114 := n0_; have HB := n1_; clear n0_ n1_; (try clear hb)
            refine hK.out _ _ ⟨(blk_cell BK114.out 0).trans rfl, (blk_cell BK114.out 1).trans rfl, (blk_cell BK114.out 2).trans rfl, (blk_cell BK114.out 3).trans rfl⟩ (fun hHeld => ?_); clear hK K; refine norm_ (a' := ?_) ?_ ?_; rotate_left
            · show Act.put _ (some 37) _ = _
              simp only [Act.put, List.setIfInBounds_toArray, List.set_cons_zero, List.set_cons_succ, i64_w, i32_w]; rfl
            refine pure_ (i := 6) (N := some 31) (v := ?_) (a' := ?_) #[true, true, true, true, true, true, true, false, false, false, false] rfl rfl (any_of HT_.out (by kernel_rfl)) (fun _ _ _ h => h) (Or.inl ⟨by rfl, ?_⟩) ?_ ?_; rotate_left
            · intro w'
              go_simp
              with_reducible rfl
            rotate_left
            · simp only [Act.put, List.setIfInBounds_toArray, List.set_cons_zero, List.set_cons_succ, i64_w, i32_w]
              rfl
            refine pure_ (i := 7) (N := some 38) (v := ?_) (a' := ?_) #[true, true, true, true, true, true, true, true, false, false, false] rfl rfl (any_of HT_.out (by kernel_rfl)) (fun _ _ _ h => h) (Or.inl ⟨by rfl, ?_⟩) ?_ ?_; rotate_left
            · intro w'
              go_simp
              with_reducible rfl
            rotate_left
            · simp only [Act.put, List.setIfInBounds_toArray, List.set_cons_zero, List.set_cons_succ, i64_w, i32_w]
              rfl
            refine pure_ (i := 8) (N := some 39) (v := ?_) (a' := ?_) #[true, true, true, true, true, true, true, true, true, false, false] rfl rfl (any_of HT_.out (by kernel_rfl)) (fun _ _ _ h => h) (Or.inl ⟨by rfl, ?_⟩) ?_ ?_; rotate_left
            · intro w'
              go_simp
              with_reducible rfl
            rotate_left
            · simp only [Act.put, List.setIfInBounds_toArray, List.set_cons_zero, List.set_cons_succ, i64_w, i32_w]
              rfl
            refine pure_ (i := 9) (N := some 9) (v := ?_) (a' := ?_) #[true, true, true, true, true, true, true, true, true, true, false] rfl rfl (any_of HT_.out (by kernel_rfl)) (fun _ _ _ h => h) (Or.inl ⟨by rfl, ?_⟩) ?_ ?_; rotate_left
            · intro w'
              go_simp
              with_reducible rfl
            rotate_left
            · simp only [Act.put, List.setIfInBounds_toArray, List.set_cons_zero, List.set_cons_succ, i64_w, i32_w]
              rfl
            refine pure_ (i := 10) (N := some 10) (v := ?_) (a' := ?_) #[true, true, true, true, true, true, true, true, true, true, true] rfl rfl (any_of HT_.out (by kernel_rfl)) (fun _ _ _ h => h) (Or.inl ⟨by rfl, ?_⟩) ?_ ?_; rotate_left
            · intro w'
              go_simp
              with_reducible rfl
            rotate_left
            · simp only [Act.put, List.setIfInBounds_toArray, List.set_cons_zero, List.set_cons_succ, i64_w, i32_w]
              rfl
            refine done_ (done_of HT_.out (by kernel_rfl)) ?_; (try go_wp2); go_ret3
            exact ⟨by exact pz2, by exact phCx3_1⟩
  rw [if_neg c4] at H; have c4b0 := beq_eq_false_iff_ne.mpr c4; have c4b1 := bne_iff_ne.mpr c4; simp only [Option.some.injEq, Prod.mk.injEq] at H; obtain ⟨rfl, rfl, rfl⟩ := H; go_enter Tryz.func17, Tryz.ntmps17; go_wp2_with (first | ((with_reducible refine gate_dst (N := 2) rfl ?_); refine box_event ?hg (N := 2) ?hd (cs := #[.int .u8 a0_0, .int .i64 a0_1, .int .i64 a0_2, .int .i64 a0_3]) (t := 23) ?hr ?_; (case hd => rfl); (case hg => rfl); (case hr => first | (go_simp; done) | (go_simp; rfl)); intro gb114 hg w30 hbox hb; have n0_ := Aside0.mk (below_step (by exact pz1) hb); have n1_ := Aside0.mk (hbox); have n2_ := Aside0.mk ((by rw [hg]; exact (below_size (by exact pz1)) : w.heap.size ≤ gb114)); have n3_ := Aside0.mk ((by rw [hg]; exact (below_size (by exact pz1)) : w.heap.size ≤ gb114)); clear HB; have HB := n0_; have BK114 := n1_; have GW114 := n2_; have GE114 := n3_; clear n0_ n1_ n2_ n3_; clear hb hbox hg; obtain ⟨hcz31_0, hcz31_1, hcz31_2, hcz31_3, hfz31_0, hfz31_1, hfz31_2, hfz31_3⟩ := bk4 BK114.out) | ((with_reducible refine gate_callee (f := 50) rfl ?_); refine goesL_ (some 12) rfl rfl Tryz.func50 (by kernel_rfl) rfl #[.agg #[.int .u8 a0_0, .int .i64 a0_1, .int .i64 a0_2, .int .i64 a0_3]] rfl (by exact pz4) ?_; (with_reducible refine (point_look.calls k a0_0 a0_1 a0_2 a0_3 t115 _ A3.out).mono ?_); rintro e w32 ⟨rfl, hb⟩; refine ⟨_, rfl, ?_⟩; have n0_ := Aside0.mk (blk_below (g := gb114) (o := .cells #[.int .u8 a0_0, .int .i64 a0_1, .int .i64 a0_2, .int .i64 a0_3] 23 (0, 0)) (by exact phCx3_2) hb); have n1_ := Aside0.mk (below_step (by exact phCx3_1) hb); clear BK114; clear HB; have BK114 := n0_; have HB := n1_; clear n0_ n1_; (try clear hb); )); go_ret3
  exact ⟨by exact pz2, by exact phCx3_1⟩

/-! ### ieee_Decode: function 57 -/
def ieee_Decode.f (a0 : Int) : Option (Bool × Int × Int × Int) := (ieee_Class.f a0).bind fun t150 => (if t150 = 1 then (some (((Go.bits .and .u64 a0 9223372036854775808) != 0), t150, Go.bits .and .u64 a0 4503599627370495, (-1074))) else (if t150 = 2 then (some (((Go.bits .and .u64 a0 9223372036854775808) != 0), t150, Go.bits .or .u64 4503599627370496 (Go.bits .and .u64 a0 4503599627370495), wrap64 ((wrap64 (Go.bits .and .u64 (a0 / 4503599627370496) 2047)) - 1075))) else (if t150 = 4 then (some (((Go.bits .and .u64 a0 9223372036854775808) != 0), t150, Go.bits .and .u64 a0 4503599627370495, 0)) else (some (((Go.bits .and .u64 a0 9223372036854775808) != 0), t150, 0, 0)))))
set_option maxHeartbeats 2000000 in
set_option maxRecDepth 100000 in
theorem ieee_Decode.calls (a0 : Int) (r1 : Bool) (r2 : Int) (r3 : Int) (r4 : Int) (w : World) (h : ieee_Decode.f a0 = some (r1, r2, r3, r4)) (HG : Aside0 (GW w) := by exact pz5) :
    Calls Tryz.prog 57 #[.int .u64 a0] w fun e w' => e = .returned (.agg #[.bool r1, .int .i64 r2, .int .u64 r3, .int .i64 r4]) ∧ Below w.heap.size w w' := by
  have hu109 := Tryz.underlying99; obtain ⟨c, hc, h⟩ := Option.bind_eq_some_iff.mp h; have hcls : ∀ u : World, GW u → Calls Tryz.prog 51 #[.int .u64 a0] u fun e u' => e = .returned (.int .i64 c) ∧ Drawn0 u u' := fun u hu => ieee_Class.calls a0 c u hc ⟨hu⟩
  obtain ⟨b1, hb1⟩ : ∃ b, Go.bits .and .u64 a0 9223372036854775808 = b := ⟨_, rfl⟩; obtain ⟨b2, hb2⟩ : ∃ b, Go.bits .and .u64 a0 4503599627370495 = b := ⟨_, rfl⟩; obtain ⟨b3, hb3⟩ : ∃ b, Go.bits .or .u64 4503599627370496 b2 = b := ⟨_, rfl⟩; rw [hb1, hb2, hb3] at h; obtain ⟨b4, hb4⟩ : ∃ b, Go.bits .and .u64 (a0 / 4503599627370496) 2047 = b := ⟨_, rfl⟩; rw [hb4] at h; by_cases c3 : c = 1
  · rw [if_pos c3] at h
    have c3b0 := beq_iff_eq.mpr c3; clear c3; simp only [Option.some.injEq, Prod.mk.injEq] at h; obtain ⟨rfl, rfl, rfl, rfl⟩ := h; go_enter Tryz.func57, Tryz.ntmps57; go_wp2_with (go_at_call 51; refine (hcls _ (HG.out.alloc _)).mono ?_; rintro e w' ⟨rfl, ⟨nd, rfl⟩⟩); refine bodyPost_ret (results_cell_row rfl _ _ w.heap.size 99 #[.bool (b1 != 0), .int .i64 c, .int .u64 b2, .int .i64 (-1074)] (0, 0) _ rfl ?_ Tryz.underlying99 rfl (by kernel_rfl)) rfl ?_
    · refine blk_alloc ?_ _
      refine blk_put (cs := #[.bool (b1 != 0), .int .i64 c, .int .u64 b2, .int .i64 0]) ?_ 3 _ rfl; refine blk_put (cs := #[.bool (b1 != 0), .int .i64 c, .int .u64 0, .int .i64 0]) ?_ 2 _ rfl; refine blk_put (cs := #[.bool (b1 != 0), .int .i64 0, .int .u64 0, .int .i64 0]) ?_ 1 _ rfl; refine blk_put (cs := #[.bool false, .int .i64 0, .int .u64 0, .int .i64 0]) ?_ 0 _ rfl; refine blk_drewN ?_ _; exact heap_alloc_new w _
    exact ⟨rfl, by exact phCx3_10⟩
  rw [if_neg c3] at h; have c3b0 := beq_eq_false_iff_ne.mpr c3; clear c3; by_cases c4 : c = 2
  · rw [if_pos c4] at h
    have c4b0 := beq_iff_eq.mpr c4; clear c4; simp only [Option.some.injEq, Prod.mk.injEq] at h; obtain ⟨rfl, rfl, rfl, rfl⟩ := h; go_enter Tryz.func57, Tryz.ntmps57; go_wp2_with (go_at_call 51; refine (hcls _ (HG.out.alloc _)).mono ?_; rintro e w' ⟨rfl, ⟨nd, rfl⟩⟩); refine bodyPost_ret (results_cell_row rfl _ _ w.heap.size 99 #[.bool (b1 != 0), .int .i64 c, .int .u64 b3, .int .i64 (wrap64 ((wrap64 b4) - 1075))] (0, 0) _ rfl ?_ Tryz.underlying99 rfl (by kernel_rfl)) rfl ?_
    · refine blk_alloc ?_ _
      refine blk_put (cs := #[.bool (b1 != 0), .int .i64 c, .int .u64 b3, .int .i64 0]) ?_ 3 _ rfl; refine blk_put (cs := #[.bool (b1 != 0), .int .i64 c, .int .u64 0, .int .i64 0]) ?_ 2 _ rfl; refine blk_put (cs := #[.bool (b1 != 0), .int .i64 0, .int .u64 0, .int .i64 0]) ?_ 1 _ rfl; refine blk_put (cs := #[.bool false, .int .i64 0, .int .u64 0, .int .i64 0]) ?_ 0 _ rfl; refine blk_drewN ?_ _; exact heap_alloc_new w _
    exact ⟨rfl, by exact phCx3_10⟩
  rw [if_neg c4] at h; have c4b0 := beq_eq_false_iff_ne.mpr c4; clear c4; by_cases c5 : c = 4
  · rw [if_pos c5] at h
    have c5b0 := beq_iff_eq.mpr c5; clear c5; simp only [Option.some.injEq, Prod.mk.injEq] at h; obtain ⟨rfl, rfl, rfl, rfl⟩ := h; go_enter Tryz.func57, Tryz.ntmps57; go_wp2_with (go_at_call 51; refine (hcls _ (HG.out.alloc _)).mono ?_; rintro e w' ⟨rfl, ⟨nd, rfl⟩⟩); refine bodyPost_ret (results_cell_row rfl _ _ w.heap.size 99 #[.bool (b1 != 0), .int .i64 c, .int .u64 b2, .int .i64 0] (0, 0) _ rfl ?_ Tryz.underlying99 rfl (by kernel_rfl)) rfl ?_
    · refine blk_alloc ?_ _
      refine blk_put (cs := #[.bool (b1 != 0), .int .i64 c, .int .u64 b2, .int .i64 0]) ?_ 3 _ rfl; refine blk_put (cs := #[.bool (b1 != 0), .int .i64 c, .int .u64 0, .int .i64 0]) ?_ 2 _ rfl; refine blk_put (cs := #[.bool (b1 != 0), .int .i64 0, .int .u64 0, .int .i64 0]) ?_ 1 _ rfl; refine blk_put (cs := #[.bool false, .int .i64 0, .int .u64 0, .int .i64 0]) ?_ 0 _ rfl; refine blk_drewN ?_ _; exact heap_alloc_new w _
    exact ⟨rfl, by exact phCx3_10⟩
  rw [if_neg c5] at h; have c5b0 := beq_eq_false_iff_ne.mpr c5; clear c5; simp only [Option.some.injEq, Prod.mk.injEq] at h; obtain ⟨rfl, rfl, rfl, rfl⟩ := h; go_enter Tryz.func57, Tryz.ntmps57; go_wp2_with (go_at_call 51; refine (hcls _ (HG.out.alloc _)).mono ?_; rintro e w' ⟨rfl, ⟨nd, rfl⟩⟩); refine bodyPost_ret (results_cell_row rfl _ _ w.heap.size 99 #[.bool (b1 != 0), .int .i64 c, .int .u64 0, .int .i64 0] (0, 0) _ rfl ?_ Tryz.underlying99 rfl (by kernel_rfl)) rfl ?_
  · refine blk_alloc ?_ _
    refine blk_put (cs := #[.bool (b1 != 0), .int .i64 c, .int .u64 0, .int .i64 0]) ?_ 3 _ rfl; refine blk_put (cs := #[.bool (b1 != 0), .int .i64 c, .int .u64 0, .int .i64 0]) ?_ 2 _ rfl; refine blk_put (cs := #[.bool (b1 != 0), .int .i64 0, .int .u64 0, .int .i64 0]) ?_ 1 _ rfl; refine blk_put (cs := #[.bool false, .int .i64 0, .int .u64 0, .int .i64 0]) ?_ 0 _ rfl; refine blk_drewN ?_ _; exact heap_alloc_new w _
  exact ⟨rfl, by exact phCx3_10⟩

/-! ### nat_FromUint: function 58 -/
def nat_FromUint.f (a0 : Int) : Option (List Int) := if a0 = 0 then (some ([] : List Int)) else (some (([a0] : List Int)))
set_option maxHeartbeats 8000000 in
set_option maxRecDepth 100000 in
theorem nat_FromUint.calls (a0 : Int) (r : List Int) (w : World) (h : nat_FromUint.f a0 = some r) (HG : Aside0 (GW w) := by exact pz5) :
    Calls Tryz.prog 58 #[.int .u64 a0] w fun e w' => ∃ v0_ : Value, e = .returned (v0_) ∧ Kd.R (Kd.int .u64) 24 w' w.heap.size (fun _ => True) v0_ r ∧ Below w.heap.size w w' := by
  have HB := Aside0.mk (Below.refl w.heap.size w); have H := h; clear h; unfold nat_FromUint.f at H; by_cases c2 : a0 = 0
  · rw [if_pos c2] at H
    have c2b0 := beq_iff_eq.mpr c2; have c2b1 := bne_eq_false_iff_eq.mpr c2; clear c2; obtain rfl := Option.some.inj H; go_enter Tryz.func58, Tryz.ntmps58; go_wp2; go_ret; exact ⟨_, by exact pz2, by first | exact Kd.R_nil _ _ _ _ _ | exact Kd.N_nil _ _ _ _ _ | exact Kd.V_nil _ _ _ _ _ | exact Kd.Q_nil _ _ _ _ _ | exact Kd.S_nil _ _ _ _ _, by exact pz1⟩
  rw [if_neg c2] at H; have c2b0 := beq_eq_false_iff_ne.mpr c2; have c2b1 := bne_iff_ne.mpr c2; obtain ⟨y124, hy124⟩ : ∃ y_ : List Int, y_ = (([a0] : List Int)) := ⟨_, rfl⟩; replace H : (some y124) = some r := by first | (rw [hy124]; with_reducible exact H) | (have H2_ := (Option.bind_some _ _).symm.trans H; rw [hy124]; with_reducible exact H2_) | (have H2_ := (Option.bind_some _ _).symm.trans H; with_reducible exact H2_) | with_reducible exact H | (rw [hy124]; exact H) | exact H
  have Ny124 := Aside0.mk hy124; clear hy124; obtain rfl := Option.some.inj H; go_enter Tryz.func58, Tryz.ntmps58; go_wp2_with (first | ((with_reducible refine gate_dst (N := 6) rfl ?_); refine Kd.R_lit (Kd.int .u64) _ 24 ?hg (N := 6) ?hd (xs := ([a0] : List Int)) (inner := [.int .u64 a0]) (ok := fun _ => True) (okp := fun _ => True) ?hr ?hp (fun _ hk => hk) trivial (Below.refl _ _) (Nat.le_refl _) (by simp) ?_; (case hd => rfl); (case hg => rfl); (case hr => first | (go_simp; done) | (go_simp; rfl)); (case hp => exact (Reps.one (show Kd.M (Kd.int .u64) _ _ _ a0 [.int .u64 a0] from rfl) (Reps.none _ _))); intro v125 w3 ho4 hb hg_ hnew_; clear hg_ hnew_; (first | rw [← Ny124.out] at ho4 | (simp only [Int.reduceToNat] at ho4; rw [← Ny124.out] at ho4)); have n0_ := Aside0.mk (Kd.R_lower ho4 (below_size (by exact pz1))); have n1_ := Aside0.mk (below_step (by exact pz1) hb); clear HB; have HO126 := n0_; have HB := n1_; clear n0_ n1_; clear hb ho4)); go_ret; exact ⟨_, by exact pz2, by (with_reducible repeat (first | apply Kd.R_alloc | apply Kd.R_drewN | apply Kd.R_drew)); exact HO126.out, by exact pz1⟩

/-! ### nat_size: function 100 -/
def nat_size.l0 : Nat → List Int → Int → Option (Int)
  | 0, _, _ => none
  | k + 1, x0, x3 => if x3 > 0 then (if 0 ≤ (wrap64 (x3 - 1)) then (if (wrap64 (x3 - 1)) < (x0.length : Int) then (if (rd x0 (wrap64 (x3 - 1))) = 0 then (nat_size.l0 k x0 (wrap64 (x3 - 1))) else (some x3)) else (none)) else (none)) else (some x3)
def nat_size.f (k : Nat) (l0 : List Int) : Option (Int) := nat_size.l0 k l0 (l0.length : Int)
theorem nat_size.mo {P : Prop} (h : P := by repeat' with_reducible first | apply ih0 | apply LeO.refl | apply LeO.none | refine LeO.ite ?_ ?_ | refine LeO.bind ?_ (fun _ => ?_)) : P := h
theorem nat_size.mono_l : ∀ k, (∀ y0 y1, LeO (nat_size.l0 k y0 y1) (nat_size.l0 (k + 1) y0 y1))
  | 0 => fun _ _ r h => by simp [nat_size.l0] at h
  | k + 1 => by
    have ih0 := nat_size.mono_l k
    · intro y0 y1
      unfold nat_size.l0
      exact nat_size.mo
theorem nat_size.mono : ∀ a0 k, LeO (nat_size.f k a0) (nat_size.f (k + 1) a0) := by
  intro a0 k; have ih0 := nat_size.mono_l k; unfold nat_size.f; exact nat_size.mo
set_option maxHeartbeats 8000000 in
set_option maxRecDepth 100000 in
theorem nat_size.calls (k : Nat) (A0 : Option Addr) (c0 : Nat) (l0 : List Int) (r : Int) (w : World) (hr0 : Kd.C (Kd.int .u64) w A0 l0.length l0) (hc0 : l0.length ≤ c0) (h : nat_size.f k l0 = some r) (HG : Aside0 (GW w) := by exact pz5) :
    Calls Tryz.prog 100 #[.slice A0 l0.length c0] w fun e w' => e = .returned (.int .i64 r) ∧ Drawn0 w w' := by
  have HR0 := Aside0.mk hr0; have HC0 := Aside0.mk hc0; clear hr0 hc0; have H := h; clear h; unfold nat_size.f at H; have H' := Aside0.mk H; clear H; go_enter Tryz.func100, Tryz.ntmps100; go_wp2; go_loopg [3] k (fun kq v3 w' => ∃ (x3_1 : Int), v3 = .int .i64 x3_1 ∧ Aside0 (nat_size.l0 kq l0 x3_1 = some r) ∧ Aside0 (kq ≤ k) ∧ Drawn0 w w')
  case atStart => exact ⟨((l0.length : Int)), (by exact pz3), H', ⟨Nat.le_refl _⟩, by exact pz7⟩
  case round =>
    clear H'; obtain ⟨x3_1, rfl, HA, HK1, ⟨m1, rfl⟩⟩ := hrel; cases gk with
    | zero => exact absurd HA.out (by simp [nat_size.l0])
    | succ k1 =>
      have H := HA.out; clear HA; simp only [nat_size.l0] at H; by_cases c2 : x3_1 > 0
      · rw [if_pos c2] at H
        have c2b0 : decide (0 < x3_1) = true := decide_eq_true c2; clear c2; obtain ⟨ji3, hji3⟩ : ∃ j_ : Int, (wrap64 (x3_1 - 1)) = j_ := ⟨_, rfl⟩; replace H : (if 0 ≤ (ji3) then (if (ji3) < (l0.length : Int) then (if (rd l0 (ji3)) = 0 then (nat_size.l0 k1 l0 ji3) else (some x3_1)) else (none)) else (none)) = some r := by first | (rw [hji3] at H; exact H) | (simp only [hji3] at H ⊢; exact H)
        have hji3w : (IntKind.i64.wrap (x3_1 - 1)) = ji3 := (i64_w _).trans hji3; by_cases c4 : 0 ≤ (ji3)
        · rw [if_pos c4] at H
          have c4b0 := decide_eq_true c4; clear c4; by_cases c5 : (ji3) < (l0.length : Int)
          · rw [if_pos c5] at H
            have c5b0 := decide_eq_true c5; clear c5; by_cases c6 : (rd l0 (ji3)) = 0
            · rw [if_pos c6] at H
              have c6b0 := beq_iff_eq.mpr c6; have c6b1 := bne_eq_false_iff_eq.mpr c6; clear c6; have H' := Aside0.mk H; clear H; have p127 : 0 ≤ ((ji3) : Int) := of_decide_eq_true (by first | (with_reducible assumption) | assumption); have q127 : (ji3) < (l0.length : Int) := of_decide_eq_true (by first | (with_reducible assumption) | assumption); obtain ⟨ad127, e127, hx127_0⟩ := Kd.at_int HR0.out (ji3) p127 q127; cases e127
              replace p127 := eq_true p127; replace q127 := eq_true q127; go_wp2; (try simp only [← hji3])
              go_roundg k1
              case measure => have := HK1.out; omega
              case rel => exact ⟨(ji3), (by first | rfl | (simp; done) | (simp only [← hji3] <;> (first | rfl | simp)) | (simp [*]; done)), (by first | exact H' | ((try rw [hji3]); exact H')), ⟨by have := HK1.out; omega⟩, by exact pz7⟩
            rw [if_neg c6] at H; have c6b0 := beq_eq_false_iff_ne.mpr c6; have c6b1 := bne_iff_ne.mpr c6; obtain rfl := Option.some.inj H; have p127 : 0 ≤ ((ji3) : Int) := of_decide_eq_true (by first | (with_reducible assumption) | assumption); have q127 : (ji3) < (l0.length : Int) := of_decide_eq_true (by first | (with_reducible assumption) | assumption); obtain ⟨ad127, e127, hx127_0⟩ := Kd.at_int HR0.out (ji3) p127 q127; cases e127
            replace p127 := eq_true p127; replace q127 := eq_true q127; go_wp2; go_ret; exact ⟨by first | rfl | (simp; done) | (simp only [← hji3] <;> (first | rfl | simp)) | (simp [*]; done), by exact pz7⟩
          rw [if_neg c5] at H; exact absurd H (by simp)
        rw [if_neg c4] at H; exact absurd H (by simp)
      rw [if_neg c2] at H; have c2b0 : decide (0 < x3_1) = false := decide_eq_false c2; clear c2; obtain rfl := Option.some.inj H; go_wp2; go_ret; exact ⟨by exact pz3, by exact pz7⟩

/-! ### nat_big: function 99 -/
def nat_big.f (k : Nat) (l0 : List Int) : Option (Bool) := (nat_size.f k l0).bind fun t128 => (some (decide (t128 > 4096)))
theorem nat_big.mo {P : Prop} (h : P := by repeat' with_reducible first | apply nat_size.mono | apply LeO.refl | apply LeO.none | refine LeO.ite ?_ ?_ | refine LeO.bind ?_ (fun _ => ?_)) : P := h
theorem nat_big.mono : ∀ a0 k, LeO (nat_big.f k a0) (nat_big.f (k + 1) a0) := by
  intro a0 k; unfold nat_big.f; exact nat_big.mo
set_option maxHeartbeats 8000000 in
set_option maxRecDepth 100000 in
theorem nat_big.calls (k : Nat) (A0 : Option Addr) (c0 : Nat) (l0 : List Int) (r : Bool) (w : World) (hr0 : Kd.C (Kd.int .u64) w A0 l0.length l0) (hc0 : l0.length ≤ c0) (h : nat_big.f k l0 = some r) (HG : Aside0 (GW w) := by exact pz5) :
    Calls Tryz.prog 99 #[.slice A0 l0.length c0] w fun e w' => e = .returned (.bool r) ∧ Drawn0 w w' := by
  have HR0 := Aside0.mk hr0; have HC0 := Aside0.mk hc0; clear hr0 hc0; have H := h; clear h; unfold nat_big.f at H; replace H := Option.bind_eq_some_iff.mp H; obtain ⟨t128, A20, H⟩ := H; (try dsimp only at H); have A2 := Aside0.mk A20; clear A20; obtain rfl := Option.some.inj H; go_enter Tryz.func99, Tryz.ntmps99; go_wp2_with (first | ((with_reducible refine gate_callee (f := 100) rfl ?_); refine goesL_ (some 4) rfl rfl Tryz.func100 (by kernel_rfl) rfl #[.slice A0 l0.length c0] rfl (by exact pz4) ?_; (with_reducible refine (nat_size.calls k _ _ l0 t128 _ ?side1 ?side2 A2.out).mono ?_); (case side1 => repeat (first | exact HR0.out | (with_reducible refine Kd.C_alloc ?_ _) | (with_reducible refine Kd.C_drewN ?_ _) | (with_reducible refine Kd.C_drew ?_))); (case side2 => exact HC0.out); rintro e w' ⟨rfl, ⟨nd, rfl⟩⟩; refine ⟨_, rfl, ?_⟩)); go_ret; exact ⟨by exact pz3, by exact pz7⟩

/-! ### bits_Mul64: function 101 -/
def bits_Mul64.f (a0 : Int) (a1 : Int) : Option (Int × Int) := if 0 ≤ a0 ∧ a0 < 18446744073709551616 ∧ 0 ≤ a1 ∧ a1 < 18446744073709551616 then some (a0 * a1 / 18446744073709551616, a0 * a1 % 18446744073709551616) else none
theorem bits_Mul64.calls (a0 : Int) (a1 : Int) (r1 : Int) (r2 : Int) (w : World) (h : bits_Mul64.f a0 a1 = some (r1, r2)) :
    Calls Tryz.prog 101 #[.int .u64 a0, .int .u64 a1] w fun e w' => e = .returned (.tuple #[.int .u64 r1, .int .u64 r2]) ∧ Drawn0 w w' := by
  unfold bits_Mul64.f at h; split at h
  · rename_i h0
    cases h
    obtain ⟨x, rfl⟩ : ∃ x : Nat, a0 = (x : Int) := ⟨a0.toNat, by omega⟩; obtain ⟨y, rfl⟩ : ∃ y : Nat, a1 = (y : Int) := ⟨a1.toNat, by omega⟩; refine (Tryz.bits_Mul64 x y (by omega) (by omega) w).mono fun e w' hh => ⟨?_, ⟨0, hh.2⟩⟩
    rw [hh.1]; simp
  cases h

end Go.Proofs.YtgbjojokjekmhaaGreatDoor.PXC
