/- The machine's side of a law, printed by a program of this session out of the translation; conditions: none. -/
import Derived.Test.YtgbjojokjekmhaaGreatDoorPXCx0
import Derived.Test.YtgbjojokjekmhaaGreatDoorPXCx1
import Derived.Test.YtgbjojokjekmhaaGreatDoorPXCx3
import Derived.Test.YtgbjojokjekmhaaGreatDoorPXCx9
import Derived.Test.YtgbjojokjekmhaaGreatDoorPXCx10
import Derived.Test.YtgbjojokjekmhaaGreatDoorPXCx11
namespace Go.Proofs.YtgbjojokjekmhaaGreatDoor.PXC
open Go.Proofs.YtgbjojokjekmhaaGreatDoor
open Go.RowKit Go.Proofs.YtgbjojokjekmhaaGreatDoorW.PrintWords Go.Proofs.YtgbjojokjekmhaaGreatDoorW.PrintLast Go.Proofs.YtgbjojokjekmhaaGreatDoorW.PrintMore
attribute [local go_sem] max2_int min2_int max_two min_two max_three min_three max_four min_four   -- for this text's walks alone
set_option linter.unusedVariables false
set_option linter.unusedSimpArgs false

theorem phCx12_1 {P : Prop} (h : P := by repeat (first | (with_reducible first | exact HB.out | apply below_alloc | apply pw_below_drewN | apply below_drew1 | refine below_set ?_ GE300.out) | exact HB.out)) : P := h
theorem phCx12_2 {P : Prop} (h : P := by (with_reducible repeat (first | refine blk_drewN ?_ _ | refine blk_drew ?_ | refine blk_alloc ?_ _)); exact BK300.out) : P := h
/-! ### point_Render: function 14 -/
mutual
def point_Render.j1 : Nat → Int → Int → Int → Int → Int → Int → Option (ByteArray × Int)
  | 0, _, _, _, _, _, _ => none
  | k + 1, x1, x6, x301000, x301001, x301002, x301003 => (point_Special.f k x301000 x301001 x301002 x301003 x1).bind fun bt301 => (if bt301.2.1 = true then (point_Render.j2 k x1 x6 bt301.1 bt301.2.2 true x301000 x301001 x301002 x301003) else (point_Render.j2 k x1 x6 bt301.1 bt301.2.2 (bt301.2.2 != 0) x301000 x301001 x301002 x301003))
def point_Render.j2 : Nat → Int → Int → ByteArray → Int → Bool → Int → Int → Int → Int → Option (ByteArray × Int)
  | 0, _, _, _, _, _, _, _, _, _ => none
  | k + 1, x1, x6, x7, x9, x37, x301000, x301001, x301002, x301003 => if x37 = true then (some (x7, x9)) else (if x301003 < 0 then (point_Render.j3 k x1 x6 6 x301000 x301001 x301002 x301003) else (point_Render.j3 k x1 x6 x301003 x301000 x301001 x301002 x301003))
def point_Render.j3 : Nat → Int → Int → Int → Int → Int → Int → Int → Option (ByteArray × Int)
  | 0, _, _, _, _, _, _, _ => none
  | k + 1, x1, x6, x10, x301000, x301001, x301002, x301003 => if x301000 = 102 then (point_Render.j4 k x1 x6 x10 ((Go.bits .and .i64 x301001 8) != 0) x301000 (x301000 == 102) x301000 x301001 x301002 x301003) else (point_Render.j4 k x1 x6 x10 ((Go.bits .and .i64 x301001 8) != 0) x301000 (x301000 == 70) x301000 x301001 x301002 x301003)
def point_Render.j4 : Nat → Int → Int → Int → Bool → Int → Bool → Int → Int → Int → Int → Option (ByteArray × Int)
  | 0, _, _, _, _, _, _, _, _, _, _ => none
  | k + 1, x1, x6, x10, x11, x49, x55, x301000, x301001, x301002, x301003 => if x55 = true then ((point_places.f k x1 x10 x11).bind fun t304 => ((point_head.f x301000 x301001 x301002 x301003 x1).bind fun t305 => ((point_pad.f k x301000 x301001 x301002 x301003 t305 t304 true).bind fun bt306 => (some (bt306.1, bt306.2))))) else (if x49 = 101 then (point_Render.j5 k x1 x6 x10 x11 (x49 == 101) x301000 x301001 x301002 x301003) else (point_Render.j5 k x1 x6 x10 x11 (x49 == 69) x301000 x301001 x301002 x301003))
def point_Render.j5 : Nat → Int → Int → Int → Bool → Bool → Int → Int → Int → Int → Option (ByteArray × Int)
  | 0, _, _, _, _, _, _, _, _, _ => none
  | k + 1, x1, x6, x10, x11, x62, x301000, x301001, x301002, x301003 => if x62 = true then ((fixed_Figures.f k x1 (wrap64 (x10 + 1))).bind fun bt308 => ((point_power.f bt308.1 bt308.2.1 x6 x11).bind fun t311 => ((point_head.f x301000 x301001 x301002 x301003 x1).bind fun t312 => ((point_pad.f k x301000 x301001 x301002 x301003 t312 t311 true).bind fun bt313 => (some (bt313.1, bt313.2)))))) else ((point_general.f k x1 x10 x6 x11).bind fun t315 => ((point_head.f x301000 x301001 x301002 x301003 x1).bind fun t316 => ((point_pad.f k x301000 x301001 x301002 x301003 t316 t315 true).bind fun bt317 => (some (bt317.1, bt317.2)))))
def point_Render.j0 : Nat → Int → Int → Int → Bool → Int → Int → Int → Int → Option (ByteArray × Int)
  | 0, _, _, _, _, _, _, _, _ => none
  | k + 1, x1, x6, x17, x18, x301000, x301001, x301002, x301003 => if x18 = true then (point_Render.j1 k x1 69 x301000 x301001 x301002 x301003) else (if x17 = 101 then (point_Render.j1 k x1 x6 x301000 x301001 x301002 x301003) else (if x17 = 103 then (point_Render.j1 k x1 x6 x301000 x301001 x301002 x301003) else (if x17 = 102 then (point_Render.j1 k x1 x6 x301000 x301001 x301002 x301003) else (if x17 = 70 then (point_Render.j1 k x1 x6 x301000 x301001 x301002 x301003) else (some ((⟨#[]⟩ : ByteArray), 140))))))
end
def point_Render.f (k : Nat) (a0_0 : Int) (a0_1 : Int) (a0_2 : Int) (a0_3 : Int) (a1 : Int) : Option (ByteArray × Int) := if a0_0 = 69 then (point_Render.j0 k a1 101 a0_0 (a0_0 == 69) a0_0 a0_1 a0_2 a0_3) else (point_Render.j0 k a1 101 a0_0 (a0_0 == 71) a0_0 a0_1 a0_2 a0_3)
def point_Render.T28 : Bool × List (List Nat × List Nat) := (true, [([], []), ([], []), ([], []), ([1, 2], [1, 2]), ([], []), ([0, 3, 4, 3], [0, 3, 4]), ([5], [5]), ([5], [5]), ([6, 5, 0, 1, 2, 3, 4, 5, 6, 7], [6]), ([7, 8, 0, 1, 2, 3, 4, 5, 6, 7, 8], [7])])
def point_Render.B28 : List Nat := [0, 0, 0, 6, 0, 31, 63, 63, 255, 511]
theorem point_Render.tab28 : rtab .any (opsOf Tryz.f14 28) = point_Render.T28 := by kernel_rfl
theorem point_Render.bits28 : waitsOk point_Render.T28.2 point_Render.B28 = true := by kernel_rfl
theorem point_Render.w1 {P : Prop} (h : P := by
  go_wp2; go_meet
  case rel => exact ⟨_, (101), (by exact pz3), H', ⟨by have := HJ5.out; first | omega | exact Nat.le_refl _⟩, ⟨by exact phCx12_2⟩, ⟨by exact phCx12_1⟩⟩) : P := h
theorem point_Render.w2 {P : Prop} (h : P := by
  go_wp2; go_ret2; exact ⟨by exact pz2, by exact phCx12_1⟩) : P := h
set_option maxHeartbeats 8000000 in
set_option maxRecDepth 100000 in
theorem point_Render.calls (k : Nat) (a0_0 : Int) (a0_1 : Int) (a0_2 : Int) (a0_3 : Int) (a1 : Int) (r1 : ByteArray) (r2 : Int) (w : World) (h : point_Render.f k a0_0 a0_1 a0_2 a0_3 a1 = some (r1, r2)) (HG : Aside0 (GW w) := by first | (with_reducible exact HG) | exact ⟨GW.below HG.out (by repeat (first | (with_reducible first | exact HB.out | apply below_alloc | apply pw_below_drewN | apply below_drew1) | (with_reducible refine below_set ?_ (Aside0.out (by assumption))) | exact HB.out | exact Below.refl _ _))⟩ | exact ⟨GW.drewN HG.out _⟩ | exact ⟨GW.drew HG.out⟩ | exact ⟨GW.drewN (GW.drewN HG.out _) _⟩ | exact ⟨GW.drewN (GW.drew HG.out) _⟩) :
    Calls Tryz.prog 14 #[.agg #[.int .u8 a0_0, .int .i64 a0_1, .int .i64 a0_2, .int .i64 a0_3], .int .u64 a1] w fun e w' => e = .returned (.tuple #[.string r1, .int .i64 r2]) ∧ Below w.heap.size w w' := by
  have hu23 := Tryz.underlying23; have HB := Aside0.mk (Below.refl w.heap.size w); have H := h; clear h; unfold point_Render.f at H; have HC3 := Aside0.mk H; clear H; go_enter Tryz.func14, Tryz.ntmps14; go_upto_block 0 with (first | ((with_reducible refine gate_dst (N := 2) rfl ?_); refine box_event ?hg (N := 2) ?hd (cs := #[.int .u8 a0_0, .int .i64 a0_1, .int .i64 a0_2, .int .i64 a0_3]) (t := 23) ?hr ?_; (case hd => rfl); (case hg => rfl); (case hr => first | (go_simp; done) | (go_simp; rfl)); intro gb300 hg w4 hbox hb; have n0_ := Aside0.mk (below_step (by exact pz1) hb); have n1_ := Aside0.mk (hbox); have n2_ := Aside0.mk ((by rw [hg]; exact (below_size (by exact pz1)) : w.heap.size ≤ gb300)); have n3_ := Aside0.mk ((by rw [hg]; exact (below_size (by exact pz1)) : w.heap.size ≤ gb300)); clear HB; have HB := n0_; have BK300 := n1_; have GW300 := n2_; have GE300 := n3_; clear n0_ n1_ n2_ n3_; clear hb hbox hg; obtain ⟨hcz5_0, hcz5_1, hcz5_2, hcz5_3, hfz5_0, hfz5_1, hfz5_2, hfz5_3⟩ := bk4 BK300.out))
  (try simp only [Act.put, List.setIfInBounds_toArray, List.set_cons_zero, List.set_cons_succ])
  go_cut [6] (fun v6 wc => ∃ (kq : Nat) (x6_2 : Int), v6 = .int .u8 x6_2 ∧ Aside0 (point_Render.j1 kq a1 x6_2 a0_0 a0_1 a0_2 a0_3 = some (r1, r2)) ∧ Aside0 (kq ≤ k) ∧ Aside0 (wc.heap[gb300]? = some (.cells #[.int .u8 a0_0, .int .i64 a0_1, .int .i64 a0_2, .int .i64 a0_3] 23 (0, 0))) ∧ Aside0 (Below w.heap.size w wc))
  case first =>
    have H := HC3.out; clear HC3; have HC6 := Aside0.mk H; clear H; go_upto_if 18 with (fail)
    go_cut [18] (fun v18 wc => ∃ (kq : Nat) (x18_5 : Bool), v18 = .bool x18_5 ∧ Aside0 (point_Render.j0 kq a1 101 a0_0 x18_5 a0_0 a0_1 a0_2 a0_3 = some (r1, r2)) ∧ Aside0 (kq ≤ k) ∧ Aside0 (wc.heap[gb300]? = some (.cells #[.int .u8 a0_0, .int .i64 a0_1, .int .i64 a0_2, .int .i64 a0_3] 23 (0, 0))) ∧ Aside0 (Below w.heap.size w wc))
    case first =>
      have H := HC6.out; clear HC6; by_cases c7 : a0_0 = 69
      · rw [if_pos c7] at H
        have c7b0 := beq_iff_eq.mpr c7; have c7b1 := bne_eq_false_iff_eq.mpr c7; clear c7; (first | rw [c7b0] | (simp only [i64_w, i32_w]; rw [c7b0]) | skip)
        have H' := Aside0.mk H; clear H; go_wp2; go_meet
        case rel => exact ⟨_, ((a0_0 == 69)), (by exact pz3), H', ⟨by first | omega | exact Nat.le_refl _⟩, ⟨by exact phCx12_2⟩, ⟨by exact phCx12_1⟩⟩
      rw [if_neg c7] at H; have c7b0 := beq_eq_false_iff_ne.mpr c7; have c7b1 := bne_iff_ne.mpr c7; (first | rw [c7b0] | (simp only [i64_w, i32_w]; rw [c7b0]) | skip)
      have H' := Aside0.mk H; clear H; go_wp2; go_meet
      case rel => exact ⟨_, ((a0_0 == 71)), (by exact pz3), H', ⟨by first | omega | exact Nat.le_refl _⟩, ⟨by exact phCx12_2⟩, ⟨by exact phCx12_1⟩⟩
    case rest =>
      clear HC6; (try clear hcz5_0); (try clear hcz5_1); (try clear hcz5_2); (try clear hcz5_3); (try clear hfz5_0); (try clear hfz5_1); (try clear hfz5_2); (try clear hfz5_3); obtain ⟨kq, x18_5, rfl, HA, HJ5, BK300, HB⟩ := hcut; cases kq with
      | zero => exact absurd HA.out (by simp [point_Render.j0])
      | succ kj5 =>
        have H := HA.out; clear HA; simp only [point_Render.j0] at H; by_cases c8 : x18_5 = true
        · subst c8
          rw [if_pos rfl] at H; have H' := Aside0.mk H; clear H; go_wp2; go_meet
          case rel => exact ⟨_, (69), (by exact pz3), H', ⟨by have := HJ5.out; first | omega | exact Nat.le_refl _⟩, ⟨by exact phCx12_2⟩, ⟨by exact phCx12_1⟩⟩
        replace c8 := Bool.eq_false_iff.mpr c8; subst c8; have H1 : (if a0_0 = 101 then (point_Render.j1 kj5 a1 101 a0_0 a0_1 a0_2 a0_3) else (if a0_0 = 103 then (point_Render.j1 kj5 a1 101 a0_0 a0_1 a0_2 a0_3) else (if a0_0 = 102 then (point_Render.j1 kj5 a1 101 a0_0 a0_1 a0_2 a0_3) else (if a0_0 = 70 then (point_Render.j1 kj5 a1 101 a0_0 a0_1 a0_2 a0_3) else (some ((⟨#[]⟩ : ByteArray), 140)))))) = some (r1, r2) := by rw [if_neg (show ¬ (false = true) by decide)] at H; first | exact H | (simp only [append_nothing] at H; exact H)
        clear H; have H := H1; clear H1; by_cases c9 : a0_0 = 101
        · rw [if_pos c9] at H
          have c9b0 := beq_iff_eq.mpr c9; have c9b1 := bne_eq_false_iff_eq.mpr c9; clear c9; have H' := Aside0.mk H; clear H; exact point_Render.w1
        rw [if_neg c9] at H; have c9b0 := beq_eq_false_iff_ne.mpr c9; have c9b1 := bne_iff_ne.mpr c9; by_cases c10 : a0_0 = 103
        · rw [if_pos c10] at H
          have c10b0 := beq_iff_eq.mpr c10; have c10b1 := bne_eq_false_iff_eq.mpr c10; clear c10; have H' := Aside0.mk H; clear H; exact point_Render.w1
        rw [if_neg c10] at H; have c10b0 := beq_eq_false_iff_ne.mpr c10; have c10b1 := bne_iff_ne.mpr c10; by_cases c11 : a0_0 = 102
        · rw [if_pos c11] at H
          have c11b0 := beq_iff_eq.mpr c11; have c11b1 := bne_eq_false_iff_eq.mpr c11; clear c11; have H' := Aside0.mk H; clear H; exact point_Render.w1
        rw [if_neg c11] at H; have c11b0 := beq_eq_false_iff_ne.mpr c11; have c11b1 := bne_iff_ne.mpr c11; by_cases c12 : a0_0 = 70
        · rw [if_pos c12] at H
          have c12b0 := beq_iff_eq.mpr c12; have c12b1 := bne_eq_false_iff_eq.mpr c12; clear c12; have H' := Aside0.mk H; clear H; exact point_Render.w1
        rw [if_neg c12] at H; have c12b0 := beq_eq_false_iff_ne.mpr c12; have c12b1 := bne_iff_ne.mpr c12; simp only [Option.some.injEq, Prod.mk.injEq] at H; obtain ⟨rfl, rfl⟩ := H; exact point_Render.w2
  case rest =>
    clear HC3; (try clear hcz5_0); (try clear hcz5_1); (try clear hcz5_2); (try clear hcz5_3); (try clear hfz5_0); (try clear hfz5_1); (try clear hfz5_2); (try clear hfz5_3); obtain ⟨kq, x6_2, rfl, HA, HJ2, BK300, HB⟩ := hcut; cases kq with
    | zero => exact absurd HA.out (by simp [point_Render.j1])
    | succ kj2 =>
      have H := HA.out; clear HA; simp only [point_Render.j1] at H; replace H := Option.bind_eq_some_iff.mp H; obtain ⟨⟨t301, t302, t303⟩, A130, H⟩ := H; (try dsimp only at H); have A13 := Aside0.mk A130; clear A130; have HC14 := Aside0.mk H; clear H; obtain ⟨hcz15_0, hcz15_1, hcz15_2, hcz15_3, hfz15_0, hfz15_1, hfz15_2, hfz15_3⟩ := bk4 BK300.out; go_upto_region 12 with (first | ((with_reducible refine gate_callee (f := 17) rfl ?_); refine goesL_ (some 29) rfl rfl Tryz.func17 (by kernel_rfl) rfl #[.agg #[.int .u8 a0_0, .int .i64 a0_1, .int .i64 a0_2, .int .i64 a0_3], .int .u64 a1] rfl (by exact pz4) ?_; (with_reducible refine (point_Special.calls kj2 a0_0 a0_1 a0_2 a0_3 a1 t301 t302 t303 _ A13.out).mono ?_); rintro e w16 ⟨rfl, hb⟩; refine ⟨_, rfl, ?_⟩; have n0_ := Aside0.mk (blk_below (g := gb300) (o := .cells #[.int .u8 a0_0, .int .i64 a0_1, .int .i64 a0_2, .int .i64 a0_3] 23 (0, 0)) (by exact phCx12_2) hb); have n1_ := Aside0.mk (below_step (by exact phCx12_1) hb); clear BK300; clear HB; have BK300 := n0_; have HB := n1_; clear n0_ n1_; (try clear hb); ))
      (try simp only [Act.put, List.setIfInBounds_toArray, List.set_cons_zero, List.set_cons_succ])
      go_cut [37] (fun v37 wc => ∃ (kq : Nat) (x37_13 : Bool), v37 = .bool x37_13 ∧ Aside0 (point_Render.j2 kq a1 x6_2 t301 t303 x37_13 a0_0 a0_1 a0_2 a0_3 = some (r1, r2)) ∧ Aside0 (kq ≤ kj2) ∧ Aside0 (wc.heap[gb300]? = some (.cells #[.int .u8 a0_0, .int .i64 a0_1, .int .i64 a0_2, .int .i64 a0_3] 23 (0, 0))) ∧ Aside0 (Below w.heap.size w wc))
      case first =>
        have H := HC14.out; clear HC14; by_cases c17 : t302 = true
        · subst c17
          rw [if_pos rfl] at H; have H' := Aside0.mk H; clear H; go_wp2; go_meet
          case rel => exact ⟨_, (true), (by exact pz3), H', ⟨by have := HJ2.out; first | omega | exact Nat.le_refl _⟩, ⟨by exact phCx12_2⟩, ⟨by exact phCx12_1⟩⟩
        replace c17 := Bool.eq_false_iff.mpr c17; subst c17; rw [if_neg (show ¬ (false = true) by decide)] at H; have H' := Aside0.mk H; clear H; go_wp2; go_meet
        case rel => exact ⟨_, ((t303 != 0)), (by exact pz3), H', ⟨by have := HJ2.out; first | omega | exact Nat.le_refl _⟩, ⟨by exact phCx12_2⟩, ⟨by exact phCx12_1⟩⟩
      case rest =>
        clear HC14; (try clear hcz15_0); (try clear hcz15_1); (try clear hcz15_2); (try clear hcz15_3); (try clear hcz5_0); (try clear hcz5_1); (try clear hcz5_2); (try clear hcz5_3); (try clear hfz15_0); (try clear hfz15_1); (try clear hfz15_2); (try clear hfz15_3); (try clear hfz5_0); (try clear hfz5_1); (try clear hfz5_2); (try clear hfz5_3); obtain ⟨kq, x37_13, rfl, HA, HJ13, BK300, HB⟩ := hcut; cases kq with
        | zero => exact absurd HA.out (by simp [point_Render.j2])
        | succ kj13 =>
          have H := HA.out; clear HA; simp only [point_Render.j2] at H; by_cases c18 : x37_13 = true
          · subst c18
            rw [if_pos rfl] at H; simp only [Option.some.injEq, Prod.mk.injEq] at H; obtain ⟨rfl, rfl⟩ := H; exact point_Render.w2
          replace c18 := Bool.eq_false_iff.mpr c18; subst c18; rw [if_neg (show ¬ (false = true) by decide)] at H; have HC19 := Aside0.mk H; clear H; obtain ⟨hcz20_0, hcz20_1, hcz20_2, hcz20_3, hfz20_0, hfz20_1, hfz20_2, hfz20_3⟩ := bk4 BK300.out; go_upto_if 43 with (fail)
          go_cut [10] (fun v10 wc => ∃ (kq : Nat) (x10_18 : Int), v10 = .int .i64 x10_18 ∧ Aside0 (point_Render.j3 kq a1 x6_2 x10_18 a0_0 a0_1 a0_2 a0_3 = some (r1, r2)) ∧ Aside0 (kq ≤ kj13) ∧ Aside0 (wc.heap[gb300]? = some (.cells #[.int .u8 a0_0, .int .i64 a0_1, .int .i64 a0_2, .int .i64 a0_3] 23 (0, 0))) ∧ Aside0 (Below w.heap.size w wc))
          case first =>
            have H := HC19.out; clear HC19; by_cases c21 : a0_3 < 0
            · rw [if_pos c21] at H
              have c21b0 := decide_eq_true c21; clear c21; (first | rw [c21b0] | (simp only [i64_w, i32_w]; rw [c21b0]) | skip)
              have H' := Aside0.mk H; clear H; go_wp2; go_meet
              case rel => exact ⟨_, (6), (by exact pz3), H', ⟨by have := HJ2.out; have := HJ13.out; first | omega | exact Nat.le_refl _⟩, ⟨by exact phCx12_2⟩, ⟨by exact phCx12_1⟩⟩
            rw [if_neg c21] at H; have c21b0 := decide_eq_false c21; clear c21; (first | rw [c21b0] | (simp only [i64_w, i32_w]; rw [c21b0]) | skip)
            have H' := Aside0.mk H; clear H; go_wp2; go_meet
            case rel => exact ⟨_, (a0_3), (by exact pz3), H', ⟨by have := HJ2.out; have := HJ13.out; first | omega | exact Nat.le_refl _⟩, ⟨by exact phCx12_2⟩, ⟨by exact phCx12_1⟩⟩
          case rest =>
            clear HC19; (try clear c18); (try clear hcz15_0); (try clear hcz15_1); (try clear hcz15_2); (try clear hcz15_3); (try clear hcz20_0); (try clear hcz20_1); (try clear hcz20_2); (try clear hcz20_3); (try clear hcz5_0); (try clear hcz5_1); (try clear hcz5_2); (try clear hcz5_3); (try clear hfz15_0); (try clear hfz15_1); (try clear hfz15_2); (try clear hfz15_3); (try clear hfz20_0); (try clear hfz20_1); (try clear hfz20_2); (try clear hfz20_3); (try clear hfz5_0); (try clear hfz5_1); (try clear hfz5_2); (try clear hfz5_3); obtain ⟨kq, x10_18, rfl, HA, HJ18, BK300, HB⟩ := hcut; cases kq with
            | zero => exact absurd HA.out (by simp [point_Render.j3])
            | succ kj18 =>
              have H := HA.out; clear HA; simp only [point_Render.j3] at H; have HC22 := Aside0.mk H; clear H; obtain ⟨hcz23_0, hcz23_1, hcz23_2, hcz23_3, hfz23_0, hfz23_1, hfz23_2, hfz23_3⟩ := bk4 BK300.out; go_upto_if 55 with (fail)
              go_cut [55] (fun v55 wc => ∃ (kq : Nat) (x55_21 : Bool), v55 = .bool x55_21 ∧ Aside0 (point_Render.j4 kq a1 x6_2 x10_18 ((Go.bits .and .i64 a0_1 8) != 0) a0_0 x55_21 a0_0 a0_1 a0_2 a0_3 = some (r1, r2)) ∧ Aside0 (kq ≤ kj18) ∧ Aside0 (wc.heap[gb300]? = some (.cells #[.int .u8 a0_0, .int .i64 a0_1, .int .i64 a0_2, .int .i64 a0_3] 23 (0, 0))) ∧ Aside0 (Below w.heap.size w wc))
              case first =>
                have H := HC22.out; clear HC22; by_cases c24 : a0_0 = 102
                · rw [if_pos c24] at H
                  have c24b0 := beq_iff_eq.mpr c24; have c24b1 := bne_eq_false_iff_eq.mpr c24; clear c24; (first | rw [c24b0] | (simp only [i64_w, i32_w]; rw [c24b0]) | skip)
                  have H' := Aside0.mk H; clear H; go_wp2; go_meet
                  case rel => exact ⟨_, ((a0_0 == 102)), (by exact pz3), H', ⟨by have := HJ2.out; have := HJ13.out; have := HJ18.out; first | omega | exact Nat.le_refl _⟩, ⟨by exact phCx12_2⟩, ⟨by exact phCx12_1⟩⟩
                rw [if_neg c24] at H; have c24b0 := beq_eq_false_iff_ne.mpr c24; have c24b1 := bne_iff_ne.mpr c24; (first | rw [c24b0] | (simp only [i64_w, i32_w]; rw [c24b0]) | skip)
                have H' := Aside0.mk H; clear H; go_wp2; go_meet
                case rel => exact ⟨_, ((a0_0 == 70)), (by exact pz3), H', ⟨by have := HJ2.out; have := HJ13.out; have := HJ18.out; first | omega | exact Nat.le_refl _⟩, ⟨by exact phCx12_2⟩, ⟨by exact phCx12_1⟩⟩
              case rest =>
                clear HC22; (try clear c18); (try clear hcz15_0); (try clear hcz15_1); (try clear hcz15_2); (try clear hcz15_3); (try clear hcz20_0); (try clear hcz20_1); (try clear hcz20_2); (try clear hcz20_3); (try clear hcz23_0); (try clear hcz23_1); (try clear hcz23_2); (try clear hcz23_3); (try clear hcz5_0); (try clear hcz5_1); (try clear hcz5_2); (try clear hcz5_3); (try clear hfz15_0); (try clear hfz15_1); (try clear hfz15_2); (try clear hfz15_3); (try clear hfz20_0); (try clear hfz20_1); (try clear hfz20_2); (try clear hfz20_3); (try clear hfz23_0); (try clear hfz23_1); (try clear hfz23_2); (try clear hfz23_3); (try clear hfz5_0); (try clear hfz5_1); (try clear hfz5_2); (try clear hfz5_3); obtain ⟨kq, x55_21, rfl, HA, HJ21, BK300, HB⟩ := hcut; cases kq with
                | zero => exact absurd HA.out (by simp [point_Render.j4])
                | succ kj21 =>
                  have H := HA.out; clear HA; simp only [point_Render.j4] at H; by_cases c25 : x55_21 = true
                  · subst c25
                    rw [if_pos rfl] at H; replace H := Option.bind_eq_some_iff.mp H; obtain ⟨t304, A260, H⟩ := H; (try dsimp only at H); have A26 := Aside0.mk A260; clear A260; replace H := Option.bind_eq_some_iff.mp H; obtain ⟨t305, A270, H⟩ := H; (try dsimp only at H); have A27 := Aside0.mk A270; clear A270; replace H := Option.bind_eq_some_iff.mp H; obtain ⟨⟨t306, t307⟩, A280, H⟩ := H; (try dsimp only at H); have A28 := Aside0.mk A280; clear A280; simp only [Option.some.injEq, Prod.mk.injEq] at H; obtain ⟨rfl, rfl⟩ := H; (try go_wp2_with (first | ((with_reducible refine gate_callee (f := 45) rfl ?_); refine goesL_ (some 61) rfl rfl Tryz.func45 (by kernel_rfl) rfl #[.int .u64 a1, .int .i64 x10_18, .bool ((Go.bits .and .i64 a0_1 8) != 0)] rfl (by exact pz4) ?_; (with_reducible refine (point_places.calls kj21 a1 x10_18 ((Go.bits .and .i64 a0_1 8) != 0) t304 _ A26.out).mono ?_); rintro e w29 ⟨rfl, hb⟩; refine ⟨_, rfl, ?_⟩; have n0_ := Aside0.mk (blk_below (g := gb300) (o := .cells #[.int .u8 a0_0, .int .i64 a0_1, .int .i64 a0_2, .int .i64 a0_3] 23 (0, 0)) (by exact phCx12_2) hb); have n1_ := Aside0.mk (below_step (by exact phCx12_1) hb); clear BK300; clear HB; have BK300 := n0_; have HB := n1_; clear n0_ n1_; (try clear hb); ))); have n0_ := Aside0.mk (blk_drew BK300.out); have n1_ := Aside0.mk (below_drew1 HB.out); clear BK300; clear HB; have BK300 := n0_; have HB := n1_; clear n0_ n1_; refine start_ (n := 10) (S := fun w' => w'.cell? ⟨gb300, 0, none⟩ = some (.int .u8 a0_0) ∧ w'.cell? ⟨gb300, 1, none⟩ = some (.int .i64 a0_1) ∧ w'.cell? ⟨gb300, 2, none⟩ = some (.int .i64 a0_2) ∧ w'.cell? ⟨gb300, 3, none⟩ = some (.int .i64 a0_3)) (ds := []) #[false, false, false, false, false, false, false, false, false, false] (by kernel_rfl) rfl rfl ⟨(blk_cell BK300.out 0).trans rfl, (blk_cell BK300.out 1).trans rfl, (blk_cell BK300.out 2).trans rfl, (blk_cell BK300.out 3).trans rfl⟩ (fun hHeld => ?_); refine with_tabW point_Render.tab28 point_Render.bits28 (fun HT_ HW_ => ?_); generalize w29.drew = w30 at BK300 HB hHeld ⊢; refine pure_ (i := 2) (N := some 80) (v := ?_) (a' := ?_) #[false, false, true, false, false, false, false, false, false, false] rfl rfl (any_of HT_.out (by kernel_rfl)) (fun _ _ _ h => h) (Or.inl ⟨by rfl, ?_⟩) ?_ ?_; rotate_left
                    · intro w'
                      go_simp
                      with_reducible rfl
                    rotate_left
                    · simp only [Act.put, List.setIfInBounds_toArray, List.set_cons_zero, List.set_cons_succ, i64_w, i32_w]
                      rfl
                    refine pure_ (i := 4) (N := some 82) (v := ?_) (a' := ?_) #[false, false, true, false, true, false, false, false, false, false] rfl rfl (any_of HT_.out (by kernel_rfl)) (fun _ _ _ h => h) (Or.inl ⟨by rfl, ?_⟩) ?_ ?_; rotate_left
                    · intro w'
                      go_simp
                      with_reducible rfl
                    rotate_left
                    · simp only [Act.put, List.setIfInBounds_toArray, List.set_cons_zero, List.set_cons_succ, i64_w, i32_w]
                      rfl
                    refine take_ (i := 0) (N := some 78) (v := ?_) (a' := ?_) #[true, false, true, false, true, false, false, false, false, false] rfl rfl (take_ofW HT_.out HW_.out (by kernel_rfl)) (fun _ _ _ h => h) (Or.inl ⟨by rfl, ?_⟩) hHeld ?_ ?_; rotate_left
                    · rintro w' ⟨s0, s1, s2, s3⟩
                      go_simp
                      with_reducible rfl
                    rotate_left
                    · simp only [Act.put, List.setIfInBounds_toArray, List.set_cons_zero, List.set_cons_succ, i64_w, i32_w]
                      rfl
                    refine take_ (i := 1) (N := some 79) (v := ?_) (a' := ?_) #[true, true, true, false, true, false, false, false, false, false] rfl rfl (take_ofW HT_.out HW_.out (by kernel_rfl)) (fun _ _ _ h => h) (Or.inl ⟨by rfl, ?_⟩) hHeld ?_ ?_; rotate_left
                    · rintro w' ⟨s0, s1, s2, s3⟩
                      go_simp
                      with_reducible rfl
                    rotate_left
                    · simp only [Act.put, List.setIfInBounds_toArray, List.set_cons_zero, List.set_cons_succ, i64_w, i32_w]
                      rfl
                    refine one_ (i := 3) (N := some 81) #[true, true, true, true, true, false, false, false, false, false] rfl rfl (one_of HT_.out (by kernel_rfl)) (by decide) (fun K hK => ?_); refine goes_ Tryz.func49 (by kernel_rfl) rfl #[.agg #[.int .u8 a0_0, .int .i64 a0_1, .int .i64 a0_2, .int .i64 a0_3], .int .u64 a1] (by rfl) rfl rfl (by exact pz4) ?_; with_reducible refine (point_head.calls a0_0 a0_1 a0_2 a0_3 a1 t305 _ A27.out).mono ?_
                    rintro e w31 ⟨rfl, hb⟩; refine ⟨_, rfl, ?_⟩; have n0_ := Aside0.mk (blk_below (g := gb300) (o := .cells #[.int .u8 a0_0, .int .i64 a0_1, .int .i64 a0_2, .int .i64 a0_3] 23 (0, 0)) (by exact phCx12_2) hb); have n1_ := Aside0.mk (below_step (by exact phCx12_1) hb); clear BK300; clear HB; have BK300 := n0_; have HB := n1_; clear n0_ n1_; (try clear hb)
                    refine hK.out _ _ ⟨(blk_cell BK300.out 0).trans rfl, (blk_cell BK300.out 1).trans rfl, (blk_cell BK300.out 2).trans rfl, (blk_cell BK300.out 3).trans rfl⟩ (fun hHeld => ?_); clear hK K; refine norm_ (a' := ?_) ?_ ?_; rotate_left
                    · show Act.put _ (some 81) _ = _
                      simp only [Act.put, List.setIfInBounds_toArray, List.set_cons_zero, List.set_cons_succ, i64_w, i32_w]; rfl
                    refine one_ (i := 5) (N := some 83) #[true, true, true, true, true, true, false, false, false, false] rfl rfl (one_of HT_.out (by kernel_rfl)) (by decide) (fun K hK => ?_); refine goes_ Tryz.func48 (by kernel_rfl) rfl #[.agg #[.int .u8 a0_0, .int .i64 a0_1, .int .i64 a0_2, .int .i64 a0_3], .string t305, .string t304, .bool true] (by rfl) rfl rfl (by exact pz4) ?_; with_reducible refine (point_pad.calls kj21 a0_0 a0_1 a0_2 a0_3 t305 t304 true t306 t307 _ A28.out).mono ?_
                    rintro e w32 ⟨rfl, hb⟩; refine ⟨_, rfl, ?_⟩; have n0_ := Aside0.mk (blk_below (g := gb300) (o := .cells #[.int .u8 a0_0, .int .i64 a0_1, .int .i64 a0_2, .int .i64 a0_3] 23 (0, 0)) (by exact phCx12_2) hb); have n1_ := Aside0.mk (below_step (by exact phCx12_1) hb); clear BK300; clear HB; have BK300 := n0_; have HB := n1_; clear n0_ n1_; (try clear hb)
                    refine hK.out _ _ ⟨(blk_cell BK300.out 0).trans rfl, (blk_cell BK300.out 1).trans rfl, (blk_cell BK300.out 2).trans rfl, (blk_cell BK300.out 3).trans rfl⟩ (fun hHeld => ?_); clear hK K; refine norm_ (a' := ?_) ?_ ?_; rotate_left
                    · show Act.put _ (some 83) _ = _
                      simp only [Act.put, List.setIfInBounds_toArray, List.set_cons_zero, List.set_cons_succ, i64_w, i32_w]; rfl
                    refine pure_ (i := 6) (N := some 84) (v := ?_) (a' := ?_) #[true, true, true, true, true, true, true, false, false, false] rfl rfl (any_of HT_.out (by kernel_rfl)) (fun _ _ _ h => h) (Or.inl ⟨by rfl, ?_⟩) ?_ ?_; rotate_left
                    · intro w'
                      go_simp
                      with_reducible rfl
                    rotate_left
                    · simp only [Act.put, List.setIfInBounds_toArray, List.set_cons_zero, List.set_cons_succ, i64_w, i32_w]
                      rfl
                    refine pure_ (i := 7) (N := some 85) (v := ?_) (a' := ?_) #[true, true, true, true, true, true, true, true, false, false] rfl rfl (any_of HT_.out (by kernel_rfl)) (fun _ _ _ h => h) (Or.inl ⟨by rfl, ?_⟩) ?_ ?_; rotate_left
                    · intro w'
                      go_simp
                      with_reducible rfl
                    rotate_left
                    · simp only [Act.put, List.setIfInBounds_toArray, List.set_cons_zero, List.set_cons_succ, i64_w, i32_w]
                      rfl
                    refine pure_ (i := 8) (N := some 4) (v := ?_) (a' := ?_) #[true, true, true, true, true, true, true, true, true, false] rfl rfl (any_of HT_.out (by kernel_rfl)) (fun _ _ _ h => h) (Or.inl ⟨by rfl, ?_⟩) ?_ ?_; rotate_left
                    · intro w'
                      go_simp
                      with_reducible rfl
                    rotate_left
                    · simp only [Act.put, List.setIfInBounds_toArray, List.set_cons_zero, List.set_cons_succ, i64_w, i32_w]
                      rfl
                    refine pure_ (i := 9) (N := some 5) (v := ?_) (a' := ?_) #[true, true, true, true, true, true, true, true, true, true] rfl rfl (any_of HT_.out (by kernel_rfl)) (fun _ _ _ h => h) (Or.inl ⟨by rfl, ?_⟩) ?_ ?_; rotate_left
                    · intro w'
                      go_simp
                      with_reducible rfl
                    rotate_left
                    · simp only [Act.put, List.setIfInBounds_toArray, List.set_cons_zero, List.set_cons_succ, i64_w, i32_w]
                      rfl
                    refine done_ (done_of HT_.out (by kernel_rfl)) ?_; (try go_wp2); go_ret2; exact ⟨by exact pz2, by exact phCx12_1⟩
                  replace c25 := Bool.eq_false_iff.mpr c25; subst c25; rw [if_neg (show ¬ (false = true) by decide)] at H; have HC33 := Aside0.mk H; clear H; go_upto_if 62 with (fail)
                  go_cut [62] (fun v62 wc => ∃ (kq : Nat) (x62_32 : Bool), v62 = .bool x62_32 ∧ Aside0 (point_Render.j5 kq a1 x6_2 x10_18 ((Go.bits .and .i64 a0_1 8) != 0) x62_32 a0_0 a0_1 a0_2 a0_3 = some (r1, r2)) ∧ Aside0 (kq ≤ kj21) ∧ Aside0 (wc.heap[gb300]? = some (.cells #[.int .u8 a0_0, .int .i64 a0_1, .int .i64 a0_2, .int .i64 a0_3] 23 (0, 0))) ∧ Aside0 (Below w.heap.size w wc))
                  case first =>
                    have H := HC33.out; clear HC33; by_cases c34 : a0_0 = 101
                    · rw [if_pos c34] at H
                      have c34b0 := beq_iff_eq.mpr c34; have c34b1 := bne_eq_false_iff_eq.mpr c34; clear c34; (first | rw [c34b0] | (simp only [i64_w, i32_w]; rw [c34b0]) | skip)
                      have H' := Aside0.mk H; clear H; go_wp2; go_meet
                      case rel => exact ⟨_, ((a0_0 == 101)), (by exact pz3), H', ⟨by have := HJ2.out; have := HJ13.out; have := HJ18.out; have := HJ21.out; first | omega | exact Nat.le_refl _⟩, ⟨by exact phCx12_2⟩, ⟨by exact phCx12_1⟩⟩
                    rw [if_neg c34] at H; have c34b0 := beq_eq_false_iff_ne.mpr c34; have c34b1 := bne_iff_ne.mpr c34; (first | rw [c34b0] | (simp only [i64_w, i32_w]; rw [c34b0]) | skip)
                    have H' := Aside0.mk H; clear H; go_wp2; go_meet
                    case rel => exact ⟨_, ((a0_0 == 69)), (by exact pz3), H', ⟨by have := HJ2.out; have := HJ13.out; have := HJ18.out; have := HJ21.out; first | omega | exact Nat.le_refl _⟩, ⟨by exact phCx12_2⟩, ⟨by exact phCx12_1⟩⟩
                  case rest =>
                    clear HC33; (try clear c18); (try clear c25); (try clear hcz15_0); (try clear hcz15_1); (try clear hcz15_2); (try clear hcz15_3); (try clear hcz20_0); (try clear hcz20_1); (try clear hcz20_2); (try clear hcz20_3); (try clear hcz23_0); (try clear hcz23_1); (try clear hcz23_2); (try clear hcz23_3); (try clear hcz5_0); (try clear hcz5_1); (try clear hcz5_2); (try clear hcz5_3); (try clear hfz15_0); (try clear hfz15_1); (try clear hfz15_2); (try clear hfz15_3); (try clear hfz20_0); (try clear hfz20_1); (try clear hfz20_2); (try clear hfz20_3); (try clear hfz23_0); (try clear hfz23_1); (try clear hfz23_2); (try clear hfz23_3); (try clear hfz5_0); (try clear hfz5_1); (try clear hfz5_2); (try clear hfz5_3); obtain ⟨kq, x62_32, rfl, HA, HJ32, BK300, HB⟩ := hcut; cases kq with
                    | zero => exact absurd HA.out (by simp [point_Render.j5])
                    | succ kj32 =>
                      have H := HA.out; clear HA; simp only [point_Render.j5] at H; by_cases c35 : x62_32 = true
                      · subst c35
                        rw [if_pos rfl] at H; replace H := Option.bind_eq_some_iff.mp H; obtain ⟨⟨t308, t309, t310⟩, A360, H⟩ := H; (try dsimp only at H); have A36 := Aside0.mk A360; clear A360; replace H := Option.bind_eq_some_iff.mp H; obtain ⟨t311, A370, H⟩ := H; (try dsimp only at H); have A37 := Aside0.mk A370; clear A370; replace H := Option.bind_eq_some_iff.mp H; obtain ⟨t312, A380, H⟩ := H; (try dsimp only at H); have A38 := Aside0.mk A380; clear A380; replace H := Option.bind_eq_some_iff.mp H; obtain ⟨⟨t313, t314⟩, A390, H⟩ := H; (try dsimp only at H); have A39 := Aside0.mk A390; clear A390; simp only [Option.some.injEq, Prod.mk.injEq] at H; obtain ⟨rfl, rfl⟩ := H; (try go_wp2_with (first | ((with_reducible refine gate_callee (f := 22) rfl ?_); refine goesL_ (some 69) rfl rfl Tryz.func22 (by kernel_rfl) rfl #[.int .u64 a1, .int .i64 (wrap64 (x10_18 + 1))] rfl (by exact pz4) ?_; (with_reducible refine (fixed_Figures.calls kj32 a1 (wrap64 (x10_18 + 1)) t308 t309 t310 _ A36.out).mono ?_); rintro e w40 ⟨rfl, hb⟩; refine ⟨_, rfl, ?_⟩; have n0_ := Aside0.mk (blk_below (g := gb300) (o := .cells #[.int .u8 a0_0, .int .i64 a0_1, .int .i64 a0_2, .int .i64 a0_3] 23 (0, 0)) (by exact phCx12_2) hb); have n1_ := Aside0.mk (below_step (by exact phCx12_1) hb); clear BK300; clear HB; have BK300 := n0_; have HB := n1_; clear n0_ n1_; (try clear hb); ) | ((with_reducible refine gate_callee (f := 46) rfl ?_); refine goesL_ (some 77) rfl rfl Tryz.func46 (by kernel_rfl) rfl #[.string t308, .int .i64 t309, .int .u8 x6_2, .bool ((Go.bits .and .i64 a0_1 8) != 0)] rfl (by exact pz4) ?_; (with_reducible refine (point_power.calls t308 t309 x6_2 ((Go.bits .and .i64 a0_1 8) != 0) t311 _ A37.out).mono ?_); rintro e w41 ⟨rfl, hb⟩; refine ⟨_, rfl, ?_⟩; have n0_ := Aside0.mk (blk_below (g := gb300) (o := .cells #[.int .u8 a0_0, .int .i64 a0_1, .int .i64 a0_2, .int .i64 a0_3] 23 (0, 0)) (by exact phCx12_2) hb); have n1_ := Aside0.mk (below_step (by exact phCx12_1) hb); clear BK300; clear HB; have BK300 := n0_; have HB := n1_; clear n0_ n1_; (try clear hb); ))); have n0_ := Aside0.mk (blk_drew BK300.out); have n1_ := Aside0.mk (below_drew1 HB.out); clear BK300; clear HB; have BK300 := n0_; have HB := n1_; clear n0_ n1_; refine start_ (n := 10) (S := fun w' => w'.cell? ⟨gb300, 0, none⟩ = some (.int .u8 a0_0) ∧ w'.cell? ⟨gb300, 1, none⟩ = some (.int .i64 a0_1) ∧ w'.cell? ⟨gb300, 2, none⟩ = some (.int .i64 a0_2) ∧ w'.cell? ⟨gb300, 3, none⟩ = some (.int .i64 a0_3)) (ds := []) #[false, false, false, false, false, false, false, false, false, false] (by kernel_rfl) rfl rfl ⟨(blk_cell BK300.out 0).trans rfl, (blk_cell BK300.out 1).trans rfl, (blk_cell BK300.out 2).trans rfl, (blk_cell BK300.out 3).trans rfl⟩ (fun hHeld => ?_); refine with_tabW point_Render.tab28 point_Render.bits28 (fun HT_ HW_ => ?_); generalize w41.drew = w42 at BK300 HB hHeld ⊢; refine pure_ (i := 2) (N := some 80) (v := ?_) (a' := ?_) #[false, false, true, false, false, false, false, false, false, false] rfl rfl (any_of HT_.out (by kernel_rfl)) (fun _ _ _ h => h) (Or.inl ⟨by rfl, ?_⟩) ?_ ?_; rotate_left
                        · intro w'
                          go_simp
                          with_reducible rfl
                        rotate_left
                        · simp only [Act.put, List.setIfInBounds_toArray, List.set_cons_zero, List.set_cons_succ, i64_w, i32_w]
                          rfl
                        refine pure_ (i := 4) (N := some 82) (v := ?_) (a' := ?_) #[false, false, true, false, true, false, false, false, false, false] rfl rfl (any_of HT_.out (by kernel_rfl)) (fun _ _ _ h => h) (Or.inl ⟨by rfl, ?_⟩) ?_ ?_; rotate_left
                        · intro w'
                          go_simp
                          with_reducible rfl
                        rotate_left
                        · simp only [Act.put, List.setIfInBounds_toArray, List.set_cons_zero, List.set_cons_succ, i64_w, i32_w]
                          rfl
                        refine take_ (i := 0) (N := some 78) (v := ?_) (a' := ?_) #[true, false, true, false, true, false, false, false, false, false] rfl rfl (take_ofW HT_.out HW_.out (by kernel_rfl)) (fun _ _ _ h => h) (Or.inl ⟨by rfl, ?_⟩) hHeld ?_ ?_; rotate_left
                        · rintro w' ⟨s0, s1, s2, s3⟩
                          go_simp
                          with_reducible rfl
                        rotate_left
                        · simp only [Act.put, List.setIfInBounds_toArray, List.set_cons_zero, List.set_cons_succ, i64_w, i32_w]
                          rfl
                        refine take_ (i := 1) (N := some 79) (v := ?_) (a' := ?_) #[true, true, true, false, true, false, false, false, false, false] rfl rfl (take_ofW HT_.out HW_.out (by kernel_rfl)) (fun _ _ _ h => h) (Or.inl ⟨by rfl, ?_⟩) hHeld ?_ ?_; rotate_left
                        · rintro w' ⟨s0, s1, s2, s3⟩
                          go_simp
                          with_reducible rfl
                        rotate_left
                        · simp only [Act.put, List.setIfInBounds_toArray, List.set_cons_zero, List.set_cons_succ, i64_w, i32_w]
                          rfl
                        refine one_ (i := 3) (N := some 81) #[true, true, true, true, true, false, false, false, false, false] rfl rfl (one_of HT_.out (by kernel_rfl)) (by decide) (fun K hK => ?_); refine goes_ Tryz.func49 (by kernel_rfl) rfl #[.agg #[.int .u8 a0_0, .int .i64 a0_1, .int .i64 a0_2, .int .i64 a0_3], .int .u64 a1] (by rfl) rfl rfl (by exact pz4) ?_; with_reducible refine (point_head.calls a0_0 a0_1 a0_2 a0_3 a1 t312 _ A38.out).mono ?_
                        rintro e w43 ⟨rfl, hb⟩; refine ⟨_, rfl, ?_⟩; have n0_ := Aside0.mk (blk_below (g := gb300) (o := .cells #[.int .u8 a0_0, .int .i64 a0_1, .int .i64 a0_2, .int .i64 a0_3] 23 (0, 0)) (by exact phCx12_2) hb); have n1_ := Aside0.mk (below_step (by exact phCx12_1) hb); clear BK300; clear HB; have BK300 := n0_; have HB := n1_; clear n0_ n1_; (try clear hb)
                        refine hK.out _ _ ⟨(blk_cell BK300.out 0).trans rfl, (blk_cell BK300.out 1).trans rfl, (blk_cell BK300.out 2).trans rfl, (blk_cell BK300.out 3).trans rfl⟩ (fun hHeld => ?_); clear hK K; refine norm_ (a' := ?_) ?_ ?_; rotate_left
                        · show Act.put _ (some 81) _ = _
                          simp only [Act.put, List.setIfInBounds_toArray, List.set_cons_zero, List.set_cons_succ, i64_w, i32_w]; rfl
                        refine one_ (i := 5) (N := some 83) #[true, true, true, true, true, true, false, false, false, false] rfl rfl (one_of HT_.out (by kernel_rfl)) (by decide) (fun K hK => ?_); refine goes_ Tryz.func48 (by kernel_rfl) rfl #[.agg #[.int .u8 a0_0, .int .i64 a0_1, .int .i64 a0_2, .int .i64 a0_3], .string t312, .string t311, .bool true] (by rfl) rfl rfl (by exact pz4) ?_; with_reducible refine (point_pad.calls kj32 a0_0 a0_1 a0_2 a0_3 t312 t311 true t313 t314 _ A39.out).mono ?_
                        rintro e w44 ⟨rfl, hb⟩; refine ⟨_, rfl, ?_⟩; have n0_ := Aside0.mk (blk_below (g := gb300) (o := .cells #[.int .u8 a0_0, .int .i64 a0_1, .int .i64 a0_2, .int .i64 a0_3] 23 (0, 0)) (by exact phCx12_2) hb); have n1_ := Aside0.mk (below_step (by exact phCx12_1) hb); clear BK300; clear HB; have BK300 := n0_; have HB := n1_; clear n0_ n1_; (try clear hb)
                        refine hK.out _ _ ⟨(blk_cell BK300.out 0).trans rfl, (blk_cell BK300.out 1).trans rfl, (blk_cell BK300.out 2).trans rfl, (blk_cell BK300.out 3).trans rfl⟩ (fun hHeld => ?_); clear hK K; refine norm_ (a' := ?_) ?_ ?_; rotate_left
                        · show Act.put _ (some 83) _ = _
                          simp only [Act.put, List.setIfInBounds_toArray, List.set_cons_zero, List.set_cons_succ, i64_w, i32_w]; rfl
                        refine pure_ (i := 6) (N := some 84) (v := ?_) (a' := ?_) #[true, true, true, true, true, true, true, false, false, false] rfl rfl (any_of HT_.out (by kernel_rfl)) (fun _ _ _ h => h) (Or.inl ⟨by rfl, ?_⟩) ?_ ?_; rotate_left
                        · intro w'
                          go_simp
                          with_reducible rfl
                        rotate_left
                        · simp only [Act.put, List.setIfInBounds_toArray, List.set_cons_zero, List.set_cons_succ, i64_w, i32_w]
                          rfl
                        refine pure_ (i := 7) (N := some 85) (v := ?_) (a' := ?_) #[true, true, true, true, true, true, true, true, false, false] rfl rfl (any_of HT_.out (by kernel_rfl)) (fun _ _ _ h => h) (Or.inl ⟨by rfl, ?_⟩) ?_ ?_; rotate_left
                        · intro w'
                          go_simp
                          with_reducible rfl
                        rotate_left
                        · simp only [Act.put, List.setIfInBounds_toArray, List.set_cons_zero, List.set_cons_succ, i64_w, i32_w]
                          rfl
                        refine pure_ (i := 8) (N := some 4) (v := ?_) (a' := ?_) #[true, true, true, true, true, true, true, true, true, false] rfl rfl (any_of HT_.out (by kernel_rfl)) (fun _ _ _ h => h) (Or.inl ⟨by rfl, ?_⟩) ?_ ?_; rotate_left
                        · intro w'
                          go_simp
                          with_reducible rfl
                        rotate_left
                        · simp only [Act.put, List.setIfInBounds_toArray, List.set_cons_zero, List.set_cons_succ, i64_w, i32_w]
                          rfl
                        refine pure_ (i := 9) (N := some 5) (v := ?_) (a' := ?_) #[true, true, true, true, true, true, true, true, true, true] rfl rfl (any_of HT_.out (by kernel_rfl)) (fun _ _ _ h => h) (Or.inl ⟨by rfl, ?_⟩) ?_ ?_; rotate_left
                        · intro w'
                          go_simp
                          with_reducible rfl
                        rotate_left
                        · simp only [Act.put, List.setIfInBounds_toArray, List.set_cons_zero, List.set_cons_succ, i64_w, i32_w]
                          rfl
                        refine done_ (done_of HT_.out (by kernel_rfl)) ?_; (try go_wp2); go_ret2; exact ⟨by exact pz2, by exact phCx12_1⟩
                      replace c35 := Bool.eq_false_iff.mpr c35; subst c35; rw [if_neg (show ¬ (false = true) by decide)] at H; replace H := Option.bind_eq_some_iff.mp H; obtain ⟨t315, A450, H⟩ := H; (try dsimp only at H); have A45 := Aside0.mk A450; clear A450; replace H := Option.bind_eq_some_iff.mp H; obtain ⟨t316, A460, H⟩ := H; (try dsimp only at H); have A46 := Aside0.mk A460; clear A460; replace H := Option.bind_eq_some_iff.mp H; obtain ⟨⟨t317, t318⟩, A470, H⟩ := H; (try dsimp only at H); have A47 := Aside0.mk A470; clear A470; simp only [Option.some.injEq, Prod.mk.injEq] at H; obtain ⟨rfl, rfl⟩ := H; (try go_wp2_with (first | ((with_reducible refine gate_callee (f := 47) rfl ?_); refine goesL_ (some 54) rfl rfl Tryz.func47 (by kernel_rfl) rfl #[.int .u64 a1, .int .i64 x10_18, .int .u8 x6_2, .bool ((Go.bits .and .i64 a0_1 8) != 0)] rfl (by exact pz4) ?_; (with_reducible refine (point_general.calls kj32 a1 x10_18 x6_2 ((Go.bits .and .i64 a0_1 8) != 0) t315 _ A45.out).mono ?_); rintro e w48 ⟨rfl, hb⟩; refine ⟨_, rfl, ?_⟩; have n0_ := Aside0.mk (blk_below (g := gb300) (o := .cells #[.int .u8 a0_0, .int .i64 a0_1, .int .i64 a0_2, .int .i64 a0_3] 23 (0, 0)) (by exact phCx12_2) hb); have n1_ := Aside0.mk (below_step (by exact phCx12_1) hb); clear BK300; clear HB; have BK300 := n0_; have HB := n1_; clear n0_ n1_; (try clear hb); ))); have n0_ := Aside0.mk (blk_drew BK300.out); have n1_ := Aside0.mk (below_drew1 HB.out); clear BK300; clear HB; have BK300 := n0_; have HB := n1_; clear n0_ n1_; refine start_ (n := 10) (S := fun w' => w'.cell? ⟨gb300, 0, none⟩ = some (.int .u8 a0_0) ∧ w'.cell? ⟨gb300, 1, none⟩ = some (.int .i64 a0_1) ∧ w'.cell? ⟨gb300, 2, none⟩ = some (.int .i64 a0_2) ∧ w'.cell? ⟨gb300, 3, none⟩ = some (.int .i64 a0_3)) (ds := []) #[false, false, false, false, false, false, false, false, false, false] (by kernel_rfl) rfl rfl ⟨(blk_cell BK300.out 0).trans rfl, (blk_cell BK300.out 1).trans rfl, (blk_cell BK300.out 2).trans rfl, (blk_cell BK300.out 3).trans rfl⟩ (fun hHeld => ?_); refine with_tabW point_Render.tab28 point_Render.bits28 (fun HT_ HW_ => ?_); generalize w48.drew = w49 at BK300 HB hHeld ⊢; refine pure_ (i := 2) (N := some 80) (v := ?_) (a' := ?_) #[false, false, true, false, false, false, false, false, false, false] rfl rfl (any_of HT_.out (by kernel_rfl)) (fun _ _ _ h => h) (Or.inl ⟨by rfl, ?_⟩) ?_ ?_; rotate_left
                      · intro w'
                        go_simp
                        with_reducible rfl
                      rotate_left
                      · simp only [Act.put, List.setIfInBounds_toArray, List.set_cons_zero, List.set_cons_succ, i64_w, i32_w]
                        rfl
                      refine pure_ (i := 4) (N := some 82) (v := ?_) (a' := ?_) #[false, false, true, false, true, false, false, false, false, false] rfl rfl (any_of HT_.out (by kernel_rfl)) (fun _ _ _ h => h) (Or.inl ⟨by rfl, ?_⟩) ?_ ?_; rotate_left
                      · intro w'
                        go_simp
                        with_reducible rfl
                      rotate_left
                      · simp only [Act.put, List.setIfInBounds_toArray, List.set_cons_zero, List.set_cons_succ, i64_w, i32_w]
                        rfl
                      refine take_ (i := 0) (N := some 78) (v := ?_) (a' := ?_) #[true, false, true, false, true, false, false, false, false, false] rfl rfl (take_ofW HT_.out HW_.out (by kernel_rfl)) (fun _ _ _ h => h) (Or.inl ⟨by rfl, ?_⟩) hHeld ?_ ?_; rotate_left
                      · rintro w' ⟨s0, s1, s2, s3⟩
                        go_simp
                        with_reducible rfl
                      rotate_left
                      · simp only [Act.put, List.setIfInBounds_toArray, List.set_cons_zero, List.set_cons_succ, i64_w, i32_w]
                        rfl
                      refine take_ (i := 1) (N := some 79) (v := ?_) (a' := ?_) #[true, true, true, false, true, false, false, false, false, false] rfl rfl (take_ofW HT_.out HW_.out (by kernel_rfl)) (fun _ _ _ h => h) (Or.inl ⟨by rfl, ?_⟩) hHeld ?_ ?_; rotate_left
                      · rintro w' ⟨s0, s1, s2, s3⟩
                        go_simp
                        with_reducible rfl
                      rotate_left
                      · simp only [Act.put, List.setIfInBounds_toArray, List.set_cons_zero, List.set_cons_succ, i64_w, i32_w]
                        rfl
                      refine one_ (i := 3) (N := some 81) #[true, true, true, true, true, false, false, false, false, false] rfl rfl (one_of HT_.out (by kernel_rfl)) (by decide) (fun K hK => ?_); refine goes_ Tryz.func49 (by kernel_rfl) rfl #[.agg #[.int .u8 a0_0, .int .i64 a0_1, .int .i64 a0_2, .int .i64 a0_3], .int .u64 a1] (by rfl) rfl rfl (by exact pz4) ?_; with_reducible refine (point_head.calls a0_0 a0_1 a0_2 a0_3 a1 t316 _ A46.out).mono ?_
                      rintro e w50 ⟨rfl, hb⟩; refine ⟨_, rfl, ?_⟩; have n0_ := Aside0.mk (blk_below (g := gb300) (o := .cells #[.int .u8 a0_0, .int .i64 a0_1, .int .i64 a0_2, .int .i64 a0_3] 23 (0, 0)) (by exact phCx12_2) hb); have n1_ := Aside0.mk (below_step (by exact phCx12_1) hb); clear BK300; clear HB; have BK300 := n0_; have HB := n1_; clear n0_ n1_; (try clear hb)
                      refine hK.out _ _ ⟨(blk_cell BK300.out 0).trans rfl, (blk_cell BK300.out 1).trans rfl, (blk_cell BK300.out 2).trans rfl, (blk_cell BK300.out 3).trans rfl⟩ (fun hHeld => ?_); clear hK K; refine norm_ (a' := ?_) ?_ ?_; rotate_left
                      · show Act.put _ (some 81) _ = _
                        simp only [Act.put, List.setIfInBounds_toArray, List.set_cons_zero, List.set_cons_succ, i64_w, i32_w]; rfl
                      refine one_ (i := 5) (N := some 83) #[true, true, true, true, true, true, false, false, false, false] rfl rfl (one_of HT_.out (by kernel_rfl)) (by decide) (fun K hK => ?_); refine goes_ Tryz.func48 (by kernel_rfl) rfl #[.agg #[.int .u8 a0_0, .int .i64 a0_1, .int .i64 a0_2, .int .i64 a0_3], .string t316, .string t315, .bool true] (by rfl) rfl rfl (by exact pz4) ?_; with_reducible refine (point_pad.calls kj32 a0_0 a0_1 a0_2 a0_3 t316 t315 true t317 t318 _ A47.out).mono ?_
                      rintro e w51 ⟨rfl, hb⟩; refine ⟨_, rfl, ?_⟩; have n0_ := Aside0.mk (blk_below (g := gb300) (o := .cells #[.int .u8 a0_0, .int .i64 a0_1, .int .i64 a0_2, .int .i64 a0_3] 23 (0, 0)) (by exact phCx12_2) hb); have n1_ := Aside0.mk (below_step (by exact phCx12_1) hb); clear BK300; clear HB; have BK300 := n0_; have HB := n1_; clear n0_ n1_; (try clear hb)
                      refine hK.out _ _ ⟨(blk_cell BK300.out 0).trans rfl, (blk_cell BK300.out 1).trans rfl, (blk_cell BK300.out 2).trans rfl, (blk_cell BK300.out 3).trans rfl⟩ (fun hHeld => ?_); clear hK K; refine norm_ (a' := ?_) ?_ ?_; rotate_left
                      · show Act.put _ (some 83) _ = _
                        simp only [Act.put, List.setIfInBounds_toArray, List.set_cons_zero, List.set_cons_succ, i64_w, i32_w]; rfl
                      refine pure_ (i := 6) (N := some 84) (v := ?_) (a' := ?_) #[true, true, true, true, true, true, true, false, false, false] rfl rfl (any_of HT_.out (by kernel_rfl)) (fun _ _ _ h => h) (Or.inl ⟨by rfl, ?_⟩) ?_ ?_; rotate_left
                      · intro w'
                        go_simp
                        with_reducible rfl
                      rotate_left
                      · simp only [Act.put, List.setIfInBounds_toArray, List.set_cons_zero, List.set_cons_succ, i64_w, i32_w]
                        rfl
                      refine pure_ (i := 7) (N := some 85) (v := ?_) (a' := ?_) #[true, true, true, true, true, true, true, true, false, false] rfl rfl (any_of HT_.out (by kernel_rfl)) (fun _ _ _ h => h) (Or.inl ⟨by rfl, ?_⟩) ?_ ?_; rotate_left
                      · intro w'
                        go_simp
                        with_reducible rfl
                      rotate_left
                      · simp only [Act.put, List.setIfInBounds_toArray, List.set_cons_zero, List.set_cons_succ, i64_w, i32_w]
                        rfl
                      refine pure_ (i := 8) (N := some 4) (v := ?_) (a' := ?_) #[true, true, true, true, true, true, true, true, true, false] rfl rfl (any_of HT_.out (by kernel_rfl)) (fun _ _ _ h => h) (Or.inl ⟨by rfl, ?_⟩) ?_ ?_; rotate_left
                      · intro w'
                        go_simp
                        with_reducible rfl
                      rotate_left
                      · simp only [Act.put, List.setIfInBounds_toArray, List.set_cons_zero, List.set_cons_succ, i64_w, i32_w]
                        rfl
                      refine pure_ (i := 9) (N := some 5) (v := ?_) (a' := ?_) #[true, true, true, true, true, true, true, true, true, true] rfl rfl (any_of HT_.out (by kernel_rfl)) (fun _ _ _ h => h) (Or.inl ⟨by rfl, ?_⟩) ?_ ?_; rotate_left
                      · intro w'
                        go_simp
                        with_reducible rfl
                      rotate_left
                      · simp only [Act.put, List.setIfInBounds_toArray, List.set_cons_zero, List.set_cons_succ, i64_w, i32_w]
                        rfl
                      refine done_ (done_of HT_.out (by kernel_rfl)) ?_; (try go_wp2); go_ret2; exact ⟨by exact pz2, by exact phCx12_1⟩

end Go.Proofs.YtgbjojokjekmhaaGreatDoor.PXC
