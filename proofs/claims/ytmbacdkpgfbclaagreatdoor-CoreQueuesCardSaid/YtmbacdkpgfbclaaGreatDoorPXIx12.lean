/- The machine's side of a law, printed by a program of this session out of the translation; conditions: none. -/
import Derived.Test.YtmbacdkpgfbclaaGreatDoorPXIx0
import Derived.Test.YtmbacdkpgfbclaaGreatDoorPXIx2
import Derived.Test.YtmbacdkpgfbclaaGreatDoorPXIx4
import Derived.Test.YtmbacdkpgfbclaaGreatDoorPXIx5
import Derived.Test.YtmbacdkpgfbclaaGreatDoorPXIx7
import Derived.Test.YtmbacdkpgfbclaaGreatDoorPXIx11
namespace Go.Proofs.YtmbacdkpgfbclaaGreatDoor.PXI
open Go.Proofs.YtmbacdkpgfbclaaGreatDoor
open Go.RowKit Go.Proofs.YtmbacdkpgfbclaaGreatDoorW.PrintWords Go.Proofs.YtmbacdkpgfbclaaGreatDoorW.PrintLast Go.Proofs.YtmbacdkpgfbclaaGreatDoorW.PrintMore
attribute [local go_sem] max2_int min2_int max_two min_two max_three min_three max_four min_four   -- for this text's walks alone
set_option linter.unusedVariables false
set_option linter.unusedSimpArgs false

theorem phIx12_3 {P : Prop} (h : P := by repeat (first | (with_reducible first | exact HB.out | apply below_alloc | apply pw_below_drewN | apply below_drew1 | refine below_set ?_ GE321.out) | exact HB.out)) : P := h
theorem phIx12_7 {P : Prop} (h : P := by (with_reducible repeat (first | apply Kd.R_alloc | apply Kd.R_drewN | apply Kd.R_drew)); exact HO324.out) : P := h
theorem phIx12_8 {P : Prop} (h : P := by (with_reducible repeat (first | refine blk_drewN ?_ _ | refine blk_drew ?_ | refine blk_alloc ?_ _)); exact BK321.out) : P := h
theorem phIx12_9 {P : Prop} (h : P := by (with_reducible repeat (first | refine blk_drewN ?_ _ | refine blk_drew ?_ | refine blk_alloc ?_ _)); refine blk_put (cs := #[.bool t317, .int .i64 t318, .int .u64 t319, .int .i64 0]) ?_ 3 _ (by first | rfl | (simp; done)); (with_reducible repeat (first | refine blk_drewN ?_ _ | refine blk_drew ?_ | refine blk_alloc ?_ _)); refine blk_put (cs := #[.bool t317, .int .i64 t318, .int .u64 0, .int .i64 0]) ?_ 2 _ (by first | rfl | (simp; done)); (with_reducible repeat (first | refine blk_drewN ?_ _ | refine blk_drew ?_ | refine blk_alloc ?_ _)); refine blk_put (cs := #[.bool t317, .int .i64 0, .int .u64 0, .int .i64 0]) ?_ 1 _ (by first | rfl | (simp; done)); (with_reducible repeat (first | refine blk_drewN ?_ _ | refine blk_drew ?_ | refine blk_alloc ?_ _)); refine blk_put (cs := #[.bool false, .int .i64 0, .int .u64 0, .int .i64 0]) ?_ 0 _ (by first | rfl | (simp; done)); (with_reducible repeat (first | refine blk_drewN ?_ _ | refine blk_drew ?_ | refine blk_alloc ?_ _)); exact BK321.out) : P := h
/-! ### ieee_Whole: function 176 -/
def ieee_Whole.f (k : Nat) (a0 : Int) : Option (Bool × List Int × Int) := (ieee_Decode.f a0).bind fun bt317 => (if bt317.2.1 ≥ 3 then (some (false, ([] : List Int), 5)) else ((nat_FromUint.f bt317.2.2.1).bind fun t322 => (if bt317.2.2.2 ≥ 0 then ((nat_Shl.f k t322 bt317.2.2.2).bind fun bt325 => (some (bt317.1, bt325.1, bt325.2))) else ((nat_Shr.f k t322 (wrap64 (-bt317.2.2.2))).bind fun bt329 => (some (bt317.1, bt329.1, bt329.2.2))))))
theorem ieee_Whole.mo {P : Prop} (h : P := by repeat' with_reducible first | apply nat_Shl.mono | apply nat_Shr.mono | apply LeO.refl | apply LeO.none | refine LeO.ite ?_ ?_ | refine LeO.bind ?_ (fun _ => ?_)) : P := h
theorem ieee_Whole.mono : ∀ a0 k, LeO (ieee_Whole.f k a0) (ieee_Whole.f (k + 1) a0) := by
  intro a0 k; unfold ieee_Whole.f; exact ieee_Whole.mo
set_option maxHeartbeats 8000000 in
set_option maxRecDepth 100000 in
theorem ieee_Whole.calls (k : Nat) (a0 : Int) (r1 : Bool) (r2 : List Int) (r3 : Int) (w : World) (h : ieee_Whole.f k a0 = some (r1, r2, r3)) (HG : Aside0 (GW w) := by exact pz2) :
    Calls Tryz.prog 176 #[.int .u64 a0] w fun e w' => ∃ v1_ : Value, e = .returned (.tuple #[.bool r1, v1_, .int .i64 r3]) ∧ Kd.V (Kd.int .u64) 24 w' w.heap.size (fun k_ => (w.heap.size ≤ k_)) v1_ r2 ∧ Below w.heap.size w w' := by
  have hu239 := Tryz.underlying239; have HB := Aside0.mk (Below.refl w.heap.size w); have H := h; clear h; unfold ieee_Whole.f at H; replace H := Option.bind_eq_some_iff.mp H; obtain ⟨⟨t317, t318, t319, t320⟩, A20, H⟩ := H; (try dsimp only at H); have A2 := Aside0.mk A20; clear A20; by_cases c3 : t318 ≥ 3
  · rw [if_pos c3] at H
    have c3b0 : decide (3 ≤ t318) = true := decide_eq_true c3; clear c3; simp only [Option.some.injEq, Prod.mk.injEq] at H; obtain ⟨rfl, rfl, rfl⟩ := H; go_enter Tryz.func176, Tryz.ntmps176; go_wp2_with (first | ((with_reducible refine gate_callee (f := 174) rfl ?_); refine goesL_ (some 9) rfl rfl Tryz.func174 (by kernel_rfl) rfl #[.int .u64 a0] rfl (by exact pz7) ?_; (with_reducible refine (ieee_Decode.calls a0 t317 t318 t319 t320 _ A2.out).mono ?_); rintro e w4 ⟨rfl, hb⟩; refine ⟨_, rfl, ?_⟩; have n0_ := Aside0.mk (below_step (by exact pz5) hb); clear HB; have HB := n0_; clear n0_; (try clear hb); ) | ((with_reducible refine gate_dst (N := 5) rfl ?_); refine box_event ?hg (N := 5) ?hd (cs := #[.bool false, .int .i64 0, .int .u64 0, .int .i64 0]) (t := 239) ?hr ?_; (case hd => rfl); (case hg => rfl); (case hr => first | (go_simp; done) | (go_simp; rfl)); intro gb321 hg w5 hbox hb; have n0_ := Aside0.mk (below_step (by exact pz5) hb); have n1_ := Aside0.mk (hbox); have n2_ := Aside0.mk ((by rw [hg]; exact (below_size (by exact pz5)) : w.heap.size ≤ gb321)); have n3_ := Aside0.mk ((by rw [hg]; exact (below_size (by exact pz5)) : w.heap.size ≤ gb321)); clear HB; have HB := n0_; have BK321 := n1_; have GW321 := n2_; have GE321 := n3_; clear n0_ n1_ n2_ n3_; clear hb hbox hg; obtain ⟨hcz6_0, hcz6_1, hcz6_2, hcz6_3, hfz6_0, hfz6_1, hfz6_2, hfz6_3⟩ := bk4 BK321.out)); go_ret3
    exact ⟨_, by exact pz8, Kd.V_nil _ _ _ _ _, by exact phIx12_3⟩
  rw [if_neg c3] at H; have c3b0 : decide (3 ≤ t318) = false := decide_eq_false c3; clear c3; replace H := Option.bind_eq_some_iff.mp H; obtain ⟨t322, A70, H⟩ := H; (try dsimp only at H); have A7 := Aside0.mk A70; clear A70; by_cases c8 : t320 ≥ 0
  · rw [if_pos c8] at H
    have c8b0 : decide (0 ≤ t320) = true := decide_eq_true c8; clear c8; replace H := Option.bind_eq_some_iff.mp H; obtain ⟨⟨t325, t328⟩, A90, H⟩ := H; (try dsimp only at H); have A9 := Aside0.mk A90; clear A90; simp only [Option.some.injEq, Prod.mk.injEq] at H; obtain ⟨rfl, rfl, rfl⟩ := H; go_enter Tryz.func176, Tryz.ntmps176; go_wp2_with (first | ((with_reducible refine gate_callee (f := 174) rfl ?_); refine goesL_ (some 9) rfl rfl Tryz.func174 (by kernel_rfl) rfl #[.int .u64 a0] rfl (by exact pz7) ?_; (with_reducible refine (ieee_Decode.calls a0 t317 t318 t319 t320 _ A2.out).mono ?_); rintro e w10 ⟨rfl, hb⟩; refine ⟨_, rfl, ?_⟩; have n0_ := Aside0.mk (below_step (by exact pz5) hb); clear HB; have HB := n0_; clear n0_; (try clear hb); ) | ((with_reducible refine gate_dst (N := 5) rfl ?_); refine box_event ?hg (N := 5) ?hd (cs := #[.bool false, .int .i64 0, .int .u64 0, .int .i64 0]) (t := 239) ?hr ?_; (case hd => rfl); (case hg => rfl); (case hr => first | (go_simp; done) | (go_simp; rfl)); intro gb321 hg w11 hbox hb; have n0_ := Aside0.mk (below_step (by exact pz5) hb); have n1_ := Aside0.mk (hbox); have n2_ := Aside0.mk ((by rw [hg]; exact (below_size (by exact pz5)) : w.heap.size ≤ gb321)); have n3_ := Aside0.mk ((by rw [hg]; exact (below_size (by exact pz5)) : w.heap.size ≤ gb321)); clear HB; have HB := n0_; have BK321 := n1_; have GW321 := n2_; have GE321 := n3_; clear n0_ n1_ n2_ n3_; clear hb hbox hg; obtain ⟨hcz12_0, hcz12_1, hcz12_2, hcz12_3, hfz12_0, hfz12_1, hfz12_2, hfz12_3⟩ := bk4 BK321.out) | ((with_reducible refine gate_callee (f := 201) rfl ?_); refine goesL_ (some 15) rfl rfl Tryz.func201 (by kernel_rfl) rfl #[.int .u64 t319] rfl (by exact pz7) ?_; (with_reducible refine (nat_FromUint.calls t319 t322 _ A7.out).mono ?_); rintro e w13 ⟨v323, rfl, ho0, hb⟩; refine ⟨_, rfl, ?_⟩; have n0_ := Aside0.mk (Kd.R_lower (Kd.R_newM (M := fun k_ => (w.heap.size ≤ k_)) ho0 (below_size (by exact phIx12_3)) (fun k_ h_ => h_)) (below_size (by exact phIx12_3))); have n1_ := Aside0.mk (blk_below (g := gb321) (o := .cells #[.bool t317, .int .i64 t318, .int .u64 t319, .int .i64 t320] 239 (0, 0)) (by exact phIx12_9) hb); have n2_ := Aside0.mk (below_step (by exact phIx12_3) hb); clear BK321; clear HB; have HO324 := n0_; have BK321 := n1_; have HB := n2_; clear n0_ n1_ n2_; (try clear hb); (try clear ho0); obtain ⟨hcz14_0, hcz14_1, hcz14_2, hcz14_3, hfz14_0, hfz14_1, hfz14_2, hfz14_3⟩ := bk4 BK321.out; obtain ⟨Ao15, co15, eo15⟩ := Kd.R_slice HO324.out; subst eo15) | ((with_reducible refine gate_callee (f := 202) rfl ?_); refine goesL_ (some 23) rfl rfl Tryz.func202 (by kernel_rfl) rfl #[.slice Ao15 t322.length co15, .int .i64 t320] rfl (by exact pz7) ?_; (with_reducible refine (nat_Shl.calls k _ _ t322 t320 t325 t328 _ ?side1 ?side2 A9.out).mono ?_); (case side1 => repeat (first | exact (Kd.R_reads' HO324.out).2.2 | (with_reducible refine Kd.C_alloc ?_ _) | (with_reducible refine Kd.C_drewN ?_ _) | (with_reducible refine Kd.C_drew ?_))); (case side2 => exact (Kd.R_reads' HO324.out).2.1); rintro e w16 ⟨v326, rfl, ho0, hb⟩; refine ⟨_, rfl, ?_⟩; have n0_ := Aside0.mk (Kd.R_below (by exact phIx12_7) hb); have n1_ := Aside0.mk (Kd.V_lower (Kd.V_mono (ok' := fun k_ => (w.heap.size ≤ k_) ∧ some k_ ≠ (.slice Ao15 t322.length co15 : Value).ownBlock ∧ k_ ≠ gb321) ho0 (fun k_ hk_ => ⟨(Nat.le_trans (below_size (by exact phIx12_3)) hk_), (Kd.fresh' (Kd.R_lt (by exact phIx12_7)) k_ hk_), (Kd.freshB (g := gb321) (o := .cells #[.bool t317, .int .i64 t318, .int .u64 t319, .int .i64 t320] 239 (0, 0)) (by exact phIx12_8) k_ hk_)⟩)) (below_size (by exact phIx12_3))); have n2_ := Aside0.mk (blk_below (g := gb321) (o := .cells #[.bool t317, .int .i64 t318, .int .u64 t319, .int .i64 t320] 239 (0, 0)) (by exact phIx12_8) hb); have n3_ := Aside0.mk (below_step (by exact phIx12_3) hb); clear HO324; clear BK321; clear HB; have HO324 := n0_; have HO327 := n1_; have BK321 := n2_; have HB := n3_; clear n0_ n1_ n2_ n3_; (try clear hb); (try clear ho0); obtain ⟨hcz17_0, hcz17_1, hcz17_2, hcz17_3, hfz17_0, hfz17_1, hfz17_2, hfz17_3⟩ := bk4 BK321.out)); go_ret3
    exact ⟨_, by exact pz8, by (with_reducible repeat (first | apply Kd.V_alloc | apply Kd.V_drewN | apply Kd.V_drew)); exact Kd.V_mono HO327.out (fun _ hk => hk.1), by exact phIx12_3⟩
  rw [if_neg c8] at H; have c8b0 : decide (0 ≤ t320) = false := decide_eq_false c8; clear c8; replace H := Option.bind_eq_some_iff.mp H; obtain ⟨⟨t329, t332, t333⟩, A180, H⟩ := H; (try dsimp only at H); have A18 := Aside0.mk A180; clear A180; simp only [Option.some.injEq, Prod.mk.injEq] at H; obtain ⟨rfl, rfl, rfl⟩ := H; go_enter Tryz.func176, Tryz.ntmps176; go_wp2_with (first | ((with_reducible refine gate_callee (f := 174) rfl ?_); refine goesL_ (some 9) rfl rfl Tryz.func174 (by kernel_rfl) rfl #[.int .u64 a0] rfl (by exact pz7) ?_; (with_reducible refine (ieee_Decode.calls a0 t317 t318 t319 t320 _ A2.out).mono ?_); rintro e w19 ⟨rfl, hb⟩; refine ⟨_, rfl, ?_⟩; have n0_ := Aside0.mk (below_step (by exact pz5) hb); clear HB; have HB := n0_; clear n0_; (try clear hb); ) | ((with_reducible refine gate_dst (N := 5) rfl ?_); refine box_event ?hg (N := 5) ?hd (cs := #[.bool false, .int .i64 0, .int .u64 0, .int .i64 0]) (t := 239) ?hr ?_; (case hd => rfl); (case hg => rfl); (case hr => first | (go_simp; done) | (go_simp; rfl)); intro gb321 hg w20 hbox hb; have n0_ := Aside0.mk (below_step (by exact pz5) hb); have n1_ := Aside0.mk (hbox); have n2_ := Aside0.mk ((by rw [hg]; exact (below_size (by exact pz5)) : w.heap.size ≤ gb321)); have n3_ := Aside0.mk ((by rw [hg]; exact (below_size (by exact pz5)) : w.heap.size ≤ gb321)); clear HB; have HB := n0_; have BK321 := n1_; have GW321 := n2_; have GE321 := n3_; clear n0_ n1_ n2_ n3_; clear hb hbox hg; obtain ⟨hcz21_0, hcz21_1, hcz21_2, hcz21_3, hfz21_0, hfz21_1, hfz21_2, hfz21_3⟩ := bk4 BK321.out) | ((with_reducible refine gate_callee (f := 201) rfl ?_); refine goesL_ (some 15) rfl rfl Tryz.func201 (by kernel_rfl) rfl #[.int .u64 t319] rfl (by exact pz7) ?_; (with_reducible refine (nat_FromUint.calls t319 t322 _ A7.out).mono ?_); rintro e w22 ⟨v323, rfl, ho0, hb⟩; refine ⟨_, rfl, ?_⟩; have n0_ := Aside0.mk (Kd.R_lower (Kd.R_newM (M := fun k_ => (w.heap.size ≤ k_)) ho0 (below_size (by exact phIx12_3)) (fun k_ h_ => h_)) (below_size (by exact phIx12_3))); have n1_ := Aside0.mk (blk_below (g := gb321) (o := .cells #[.bool t317, .int .i64 t318, .int .u64 t319, .int .i64 t320] 239 (0, 0)) (by exact phIx12_9) hb); have n2_ := Aside0.mk (below_step (by exact phIx12_3) hb); clear BK321; clear HB; have HO324 := n0_; have BK321 := n1_; have HB := n2_; clear n0_ n1_ n2_; (try clear hb); (try clear ho0); obtain ⟨hcz23_0, hcz23_1, hcz23_2, hcz23_3, hfz23_0, hfz23_1, hfz23_2, hfz23_3⟩ := bk4 BK321.out; obtain ⟨Ao24, co24, eo24⟩ := Kd.R_slice HO324.out; subst eo24) | ((with_reducible refine gate_callee (f := 203) rfl ?_); refine goesL_ (some 31) rfl rfl Tryz.func203 (by kernel_rfl) rfl #[.slice Ao24 t322.length co24, .int .i64 (wrap64 (-t320))] rfl (by exact pz7) ?_; (with_reducible refine (nat_Shr.calls k _ _ t322 (wrap64 (-t320)) t329 t332 t333 _ ?side1 ?side2 A18.out).mono ?_); (case side1 => repeat (first | exact (Kd.R_reads' HO324.out).2.2 | (with_reducible refine Kd.C_alloc ?_ _) | (with_reducible refine Kd.C_drewN ?_ _) | (with_reducible refine Kd.C_drew ?_))); (case side2 => exact (Kd.R_reads' HO324.out).2.1); rintro e w25 ⟨v330, rfl, ho0, hb⟩; refine ⟨_, rfl, ?_⟩; have n0_ := Aside0.mk (Kd.R_below (by exact phIx12_7) hb); have n1_ := Aside0.mk (Kd.V_lower (Kd.V_mono (ok' := fun k_ => (w.heap.size ≤ k_) ∧ some k_ ≠ (.slice Ao24 t322.length co24 : Value).ownBlock ∧ k_ ≠ gb321) ho0 (fun k_ hk_ => ⟨(Nat.le_trans (below_size (by exact phIx12_3)) hk_), (Kd.fresh' (Kd.R_lt (by exact phIx12_7)) k_ hk_), (Kd.freshB (g := gb321) (o := .cells #[.bool t317, .int .i64 t318, .int .u64 t319, .int .i64 t320] 239 (0, 0)) (by exact phIx12_8) k_ hk_)⟩)) (below_size (by exact phIx12_3))); have n2_ := Aside0.mk (blk_below (g := gb321) (o := .cells #[.bool t317, .int .i64 t318, .int .u64 t319, .int .i64 t320] 239 (0, 0)) (by exact phIx12_8) hb); have n3_ := Aside0.mk (below_step (by exact phIx12_3) hb); clear HO324; clear BK321; clear HB; have HO324 := n0_; have HO331 := n1_; have BK321 := n2_; have HB := n3_; clear n0_ n1_ n2_ n3_; (try clear hb); (try clear ho0); obtain ⟨hcz26_0, hcz26_1, hcz26_2, hcz26_3, hfz26_0, hfz26_1, hfz26_2, hfz26_3⟩ := bk4 BK321.out)); go_ret3
  exact ⟨_, by exact pz8, by (with_reducible repeat (first | apply Kd.V_alloc | apply Kd.V_drewN | apply Kd.V_drew)); exact Kd.V_mono HO331.out (fun _ hk => hk.1), by exact phIx12_3⟩

/-! ### ieee_ToInt: function 140 -/
def ieee_ToInt.j0 : Nat → Bool → Int → Bool → Bool → Option (Int × Int)
  | 0, _, _, _, _ => none
  | k + 1, x4, x7, x8, x23 => if x23 = true then (some (wrap64 (x7), 0)) else (if x8 = true then (if x7 ≤ 9223372036854775808 then (if x4 = true then (some (wrap64 (-(wrap64 (x7))), 0)) else (some (0, 41))) else (some (0, 41))) else (some (0, 41)))
def ieee_ToInt.f (k : Nat) (a0 : Int) : Option (Int × Int) := (ieee_Whole.f k a0).bind fun bt334 => (if bt334.2.2 = 0 then ((nat_ToUint.f k bt334.2.1).bind fun bt339 => (if bt339.2 = true then (if bt339.1 < 9223372036854775808 then (ieee_ToInt.j0 k bt334.1 bt339.1 bt339.2 (!bt334.1)) else (ieee_ToInt.j0 k bt334.1 bt339.1 bt339.2 false)) else (ieee_ToInt.j0 k bt334.1 bt339.1 bt339.2 false))) else (some (0, bt334.2.2)))
theorem ieee_ToInt.mo {P : Prop} (h : P := by repeat' with_reducible first | apply ih0 | apply ieee_Whole.mono | apply nat_ToUint.mono | apply LeO.refl | apply LeO.none | refine LeO.ite ?_ ?_ | refine LeO.bind ?_ (fun _ => ?_)) : P := h
theorem ieee_ToInt.mono_l : ∀ k, (∀ y0 y1 y2 y3, LeO (ieee_ToInt.j0 k y0 y1 y2 y3) (ieee_ToInt.j0 (k + 1) y0 y1 y2 y3))
  | 0 => fun _ _ _ _ r h => by simp [ieee_ToInt.j0] at h
  | k + 1 => by
    have ih0 := ieee_ToInt.mono_l k
    · intro y0 y1 y2 y3
      unfold ieee_ToInt.j0
      exact ieee_ToInt.mo
theorem ieee_ToInt.mono : ∀ a0 k, LeO (ieee_ToInt.f k a0) (ieee_ToInt.f (k + 1) a0) := by
  intro a0 k; have ih0 := ieee_ToInt.mono_l k; unfold ieee_ToInt.f; exact ieee_ToInt.mo
theorem ieee_ToInt.w1 {P : Prop} (h : P := by
  go_wp2; go_meet
  case rel => exact ⟨_, (false), (by first | rfl | (simp; done) | (simp [*]; done)), H', ⟨by first | omega | exact Nat.le_refl _⟩, ⟨by exact pz5⟩⟩) : P := h
theorem ieee_ToInt.w2 {P : Prop} (h : P := by
  go_wp2; go_ret2; exact ⟨by exact pz8, by exact pz5⟩) : P := h
set_option maxHeartbeats 8000000 in
set_option maxRecDepth 100000 in
theorem ieee_ToInt.calls (k : Nat) (a0 : Int) (r1 : Int) (r2 : Int) (w : World) (h : ieee_ToInt.f k a0 = some (r1, r2)) (HG : Aside0 (GW w) := by exact pz2) :
    Calls Tryz.prog 140 #[.int .u64 a0] w fun e w' => e = .returned (.tuple #[.int .i64 r1, .int .i64 r2]) ∧ Below w.heap.size w w' := by
  have HB := Aside0.mk (Below.refl w.heap.size w); have H := h; clear h; unfold ieee_ToInt.f at H; replace H := Option.bind_eq_some_iff.mp H; obtain ⟨⟨t334, t335, t338⟩, A20, H⟩ := H; (try dsimp only at H); have A2 := Aside0.mk A20; clear A20; by_cases c3 : t338 = 0
  · rw [if_pos c3] at H
    have c3b0 := beq_iff_eq.mpr c3; have c3b1 := bne_eq_false_iff_eq.mpr c3; clear c3; replace H := Option.bind_eq_some_iff.mp H; obtain ⟨⟨t339, t340⟩, A40, H⟩ := H; (try dsimp only at H); have A4 := Aside0.mk A40; clear A40; have HC5 := Aside0.mk H; clear H; go_enter Tryz.func140, Tryz.ntmps140; go_upto_region 5 with (first | ((with_reducible refine gate_callee (f := 176) rfl ?_); refine goesL_ (some 11) rfl rfl Tryz.func176 (by kernel_rfl) rfl #[.int .u64 a0] rfl (by exact pz7) ?_; (with_reducible refine (ieee_Whole.calls k a0 t334 t335 t338 _ A2.out).mono ?_); rintro e w6 ⟨v336, rfl, ho0, hb⟩; refine ⟨_, rfl, ?_⟩; have n0_ := Aside0.mk (Kd.V_lower (Kd.V_mono (ok' := fun k_ => True) ho0 (fun k_ hk_ => trivial)) (below_size (by exact pz5))); have n1_ := Aside0.mk (below_step (by exact pz5) hb); clear HB; have HO337 := n0_; have HB := n1_; clear n0_ n1_; (try clear hb); (try clear ho0); obtain ⟨Ao7, co7, eo7⟩ := Kd.V_slice HO337.out; subst eo7) | ((with_reducible refine gate_callee (f := 177) rfl ?_); refine goesL_ (some 20) rfl rfl Tryz.func177 (by kernel_rfl) rfl #[.slice Ao7 t335.length co7] rfl (by exact pz7) ?_; (with_reducible refine (nat_ToUint.calls k _ _ t335 t339 t340 _ ?side1 ?side2 A4.out).mono ?_); (case side1 => repeat (first | exact (Kd.V_reads' HO337.out).2.2 | (with_reducible refine Kd.C_alloc ?_ _) | (with_reducible refine Kd.C_drewN ?_ _) | (with_reducible refine Kd.C_drew ?_))); (case side2 => exact (Kd.V_reads' HO337.out).2.1); rintro e w' ⟨rfl, ⟨nd, rfl⟩⟩; refine ⟨_, rfl, ?_⟩))
    (try simp only [Act.put, List.setIfInBounds_toArray, List.set_cons_zero, List.set_cons_succ])
    go_cut [23] (fun v23 wc => ∃ (kq : Nat) (x23_4 : Bool), v23 = .bool x23_4 ∧ Aside0 (ieee_ToInt.j0 kq t334 t339 t340 x23_4 = some (r1, r2)) ∧ Aside0 (kq ≤ k) ∧ Aside0 (Below w.heap.size w wc))
    case first =>
      have H := HC5.out; clear HC5; by_cases c8 : t340 = true
      · subst c8
        rw [if_pos rfl] at H; by_cases c9 : t339 < 9223372036854775808
        · rw [if_pos c9] at H
          have c9b0 := decide_eq_true c9; clear c9; (first | rw [c9b0] | (simp only [i64_w, i32_w]; rw [c9b0]) | skip)
          have H' := Aside0.mk H; clear H; go_wp2; go_meet
          case rel => exact ⟨_, (!t334), (by first | rfl | (simp; done) | (simp [*]; done)), H', ⟨by first | omega | exact Nat.le_refl _⟩, ⟨by exact pz5⟩⟩
        rw [if_neg c9] at H; have c9b0 := decide_eq_false c9; clear c9; (first | rw [c9b0] | (simp only [i64_w, i32_w]; rw [c9b0]) | skip)
        have H' := Aside0.mk H; clear H; exact ieee_ToInt.w1
      replace c8 := Bool.eq_false_iff.mpr c8; subst c8; rw [if_neg (show ¬ (false = true) by decide)] at H; have H' := Aside0.mk H; clear H; exact ieee_ToInt.w1
    case rest =>
      clear HC5; (try clear c3); (try clear c3b0); (try clear c3b1); obtain ⟨kq, x23_4, rfl, HA, HJ4, HB⟩ := hcut; cases kq with
      | zero => exact absurd HA.out (by simp [ieee_ToInt.j0])
      | succ kj4 =>
        have H := HA.out; clear HA; simp only [ieee_ToInt.j0] at H; by_cases c10 : x23_4 = true
        · subst c10
          rw [if_pos rfl] at H; simp only [Option.some.injEq, Prod.mk.injEq] at H; obtain ⟨rfl, rfl⟩ := H; exact ieee_ToInt.w2
        replace c10 := Bool.eq_false_iff.mpr c10; subst c10; rw [if_neg (show ¬ (false = true) by decide)] at H; by_cases c11 : t340 = true
        · subst c11
          rw [if_pos rfl] at H; by_cases c12 : t339 ≤ 9223372036854775808
          · rw [if_pos c12] at H
            have c12b0 := decide_eq_true c12; clear c12; by_cases c13 : t334 = true
            · subst c13
              rw [if_pos rfl] at H; simp only [Option.some.injEq, Prod.mk.injEq] at H; obtain ⟨rfl, rfl⟩ := H; exact ieee_ToInt.w2
            replace c13 := Bool.eq_false_iff.mpr c13; subst c13; rw [if_neg (show ¬ (false = true) by decide)] at H; simp only [Option.some.injEq, Prod.mk.injEq] at H; obtain ⟨rfl, rfl⟩ := H; exact ieee_ToInt.w2
          rw [if_neg c12] at H; have c12b0 := decide_eq_false c12; clear c12; simp only [Option.some.injEq, Prod.mk.injEq] at H; obtain ⟨rfl, rfl⟩ := H; exact ieee_ToInt.w2
        replace c11 := Bool.eq_false_iff.mpr c11; subst c11; rw [if_neg (show ¬ (false = true) by decide)] at H; simp only [Option.some.injEq, Prod.mk.injEq] at H; obtain ⟨rfl, rfl⟩ := H; exact ieee_ToInt.w2
  rw [if_neg c3] at H; have c3b0 := beq_eq_false_iff_ne.mpr c3; have c3b1 := bne_iff_ne.mpr c3; simp only [Option.some.injEq, Prod.mk.injEq] at H; obtain ⟨rfl, rfl⟩ := H; go_enter Tryz.func140, Tryz.ntmps140; go_wp2_with (first | ((with_reducible refine gate_callee (f := 176) rfl ?_); refine goesL_ (some 11) rfl rfl Tryz.func176 (by kernel_rfl) rfl #[.int .u64 a0] rfl (by exact pz7) ?_; (with_reducible refine (ieee_Whole.calls k a0 t334 t335 t338 _ A2.out).mono ?_); rintro e w14 ⟨v336, rfl, ho0, hb⟩; refine ⟨_, rfl, ?_⟩; have n0_ := Aside0.mk (Kd.V_lower (Kd.V_mono (ok' := fun k_ => True) ho0 (fun k_ hk_ => trivial)) (below_size (by exact pz5))); have n1_ := Aside0.mk (below_step (by exact pz5) hb); clear HB; have HO337 := n0_; have HB := n1_; clear n0_ n1_; (try clear hb); (try clear ho0))); go_ret2; exact ⟨by exact pz8, by exact pz5⟩

/-! ### strconv_FormatInt: function 141 -/
def strconv_FormatInt.f (a0 : Int) (a1 : Int) : Option ByteArray := none
theorem strconv_FormatInt.calls (a0 : Int) (a1 : Int) (r : ByteArray) (w : World) (h : strconv_FormatInt.f a0 a1 = some r) (HG : Aside0 (GW w) := by exact pz2) :
    Calls Tryz.prog 141 #[.int .i64 a0, .int .i64 a1] w fun e w' => e = .returned (.string r) ∧ Below w.heap.size w w' := by
  cases h

/-! ### value_Integer: function 118 -/
def value_Integer.f (k : Nat) (a0 : Int) : Option (ByteArray × Bool) := (ieee_Integral.f a0).bind fun t341 => (if t341 = true then ((ieee_ToInt.f k a0).bind fun bt342 => (if bt342.2 = 0 then (if bt342.1 = (-9223372036854775808) then (some ((⟨#[]⟩ : ByteArray), false)) else ((strconv_FormatInt.f bt342.1 10).bind fun t344 => (some (t344, true)))) else (some ((⟨#[]⟩ : ByteArray), false)))) else (some ((⟨#[]⟩ : ByteArray), false)))
theorem value_Integer.mo {P : Prop} (h : P := by repeat' with_reducible first | apply ieee_ToInt.mono | apply LeO.refl | apply LeO.none | refine LeO.ite ?_ ?_ | refine LeO.bind ?_ (fun _ => ?_)) : P := h
theorem value_Integer.mono : ∀ a0 k, LeO (value_Integer.f k a0) (value_Integer.f (k + 1) a0) := by
  intro a0 k; unfold value_Integer.f; exact value_Integer.mo
set_option maxHeartbeats 8000000 in
set_option maxRecDepth 100000 in
theorem value_Integer.calls (k : Nat) (a0 : Int) (r1 : ByteArray) (r2 : Bool) (w : World) (h : value_Integer.f k a0 = some (r1, r2)) (HG : Aside0 (GW w) := by exact pz2) :
    Calls Tryz.prog 118 #[.int .u64 a0] w fun e w' => e = .returned (.tuple #[.string r1, .bool r2]) ∧ Below w.heap.size w w' := by
  have HB := Aside0.mk (Below.refl w.heap.size w); have H := h; clear h; unfold value_Integer.f at H; replace H := Option.bind_eq_some_iff.mp H; obtain ⟨t341, A20, H⟩ := H; (try dsimp only at H); have A2 := Aside0.mk A20; clear A20; by_cases c3 : t341 = true
  · subst c3
    have H1 : ((ieee_ToInt.f k a0).bind fun bt342 => (if bt342.2 = 0 then (if bt342.1 = (-9223372036854775808) then (some ((⟨#[]⟩ : ByteArray), false)) else ((strconv_FormatInt.f bt342.1 10).bind fun t344 => (some (t344, true)))) else (some ((⟨#[]⟩ : ByteArray), false)))) = some (r1, r2) := by rw [if_pos rfl] at H; first | exact H | (simp only [append_nothing] at H; exact H)
    clear H; have H := H1; clear H1; replace H := Option.bind_eq_some_iff.mp H; obtain ⟨⟨t342, t343⟩, A40, H⟩ := H; (try dsimp only at H); have A4 := Aside0.mk A40; clear A40; by_cases c5 : t343 = 0
    · rw [if_pos c5] at H
      have c5b0 := beq_iff_eq.mpr c5; have c5b1 := bne_eq_false_iff_eq.mpr c5; clear c5; by_cases c6 : t342 = (-9223372036854775808)
      · rw [if_pos c6] at H
        have c6b0 := beq_iff_eq.mpr c6; have c6b1 := bne_eq_false_iff_eq.mpr c6; clear c6; simp only [Option.some.injEq, Prod.mk.injEq] at H; obtain ⟨rfl, rfl⟩ := H; go_enter Tryz.func118, Tryz.ntmps118; go_wp2_with (first | ((with_reducible refine gate_callee (f := 139) rfl ?_); refine goesL_ (some 7) rfl rfl Tryz.func139 (by kernel_rfl) rfl #[.int .u64 a0] rfl (by exact pz7) ?_; (with_reducible refine (ieee_Integral.calls a0 true _ A2.out).mono ?_); rintro e w7 ⟨rfl, hb⟩; refine ⟨_, rfl, ?_⟩; have n0_ := Aside0.mk (below_step (by exact pz5) hb); clear HB; have HB := n0_; clear n0_; (try clear hb); ) | ((with_reducible refine gate_callee (f := 140) rfl ?_); refine goesL_ (some 11) rfl rfl Tryz.func140 (by kernel_rfl) rfl #[.int .u64 a0] rfl (by exact pz7) ?_; (with_reducible refine (ieee_ToInt.calls k a0 t342 t343 _ A4.out).mono ?_); rintro e w8 ⟨rfl, hb⟩; refine ⟨_, rfl, ?_⟩; have n0_ := Aside0.mk (below_step (by exact pz5) hb); clear HB; have HB := n0_; clear n0_; (try clear hb); )); go_ret2; exact ⟨by exact pz8, by exact pz5⟩
      rw [if_neg c6] at H; have c6b0 := beq_eq_false_iff_ne.mpr c6; have c6b1 := bne_iff_ne.mpr c6; replace H := Option.bind_eq_some_iff.mp H; obtain ⟨t344, A90, H⟩ := H; (try dsimp only at H); have A9 := Aside0.mk A90; clear A90; simp only [Option.some.injEq, Prod.mk.injEq] at H; obtain ⟨rfl, rfl⟩ := H; go_enter Tryz.func118, Tryz.ntmps118; go_wp2_with (first | ((with_reducible refine gate_callee (f := 139) rfl ?_); refine goesL_ (some 7) rfl rfl Tryz.func139 (by kernel_rfl) rfl #[.int .u64 a0] rfl (by exact pz7) ?_; (with_reducible refine (ieee_Integral.calls a0 true _ A2.out).mono ?_); rintro e w10 ⟨rfl, hb⟩; refine ⟨_, rfl, ?_⟩; have n0_ := Aside0.mk (below_step (by exact pz5) hb); clear HB; have HB := n0_; clear n0_; (try clear hb); ) | ((with_reducible refine gate_callee (f := 140) rfl ?_); refine goesL_ (some 11) rfl rfl Tryz.func140 (by kernel_rfl) rfl #[.int .u64 a0] rfl (by exact pz7) ?_; (with_reducible refine (ieee_ToInt.calls k a0 t342 t343 _ A4.out).mono ?_); rintro e w11 ⟨rfl, hb⟩; refine ⟨_, rfl, ?_⟩; have n0_ := Aside0.mk (below_step (by exact pz5) hb); clear HB; have HB := n0_; clear n0_; (try clear hb); ) | ((with_reducible refine gate_callee (f := 141) rfl ?_); refine goesL_ (some 21) rfl rfl Tryz.func141 (by kernel_rfl) rfl #[.int .i64 t342, .int .i64 10] rfl (by exact pz7) ?_; (with_reducible refine (strconv_FormatInt.calls t342 10 t344 _ A9.out).mono ?_); rintro e w12 ⟨rfl, hb⟩; refine ⟨_, rfl, ?_⟩; have n0_ := Aside0.mk (below_step (by exact pz5) hb); clear HB; have HB := n0_; clear n0_; (try clear hb); )); go_ret2; exact ⟨by exact pz8, by exact pz5⟩
    rw [if_neg c5] at H; have c5b0 := beq_eq_false_iff_ne.mpr c5; have c5b1 := bne_iff_ne.mpr c5; simp only [Option.some.injEq, Prod.mk.injEq] at H; obtain ⟨rfl, rfl⟩ := H; go_enter Tryz.func118, Tryz.ntmps118; go_wp2_with (first | ((with_reducible refine gate_callee (f := 139) rfl ?_); refine goesL_ (some 7) rfl rfl Tryz.func139 (by kernel_rfl) rfl #[.int .u64 a0] rfl (by exact pz7) ?_; (with_reducible refine (ieee_Integral.calls a0 true _ A2.out).mono ?_); rintro e w13 ⟨rfl, hb⟩; refine ⟨_, rfl, ?_⟩; have n0_ := Aside0.mk (below_step (by exact pz5) hb); clear HB; have HB := n0_; clear n0_; (try clear hb); ) | ((with_reducible refine gate_callee (f := 140) rfl ?_); refine goesL_ (some 11) rfl rfl Tryz.func140 (by kernel_rfl) rfl #[.int .u64 a0] rfl (by exact pz7) ?_; (with_reducible refine (ieee_ToInt.calls k a0 t342 t343 _ A4.out).mono ?_); rintro e w14 ⟨rfl, hb⟩; refine ⟨_, rfl, ?_⟩; have n0_ := Aside0.mk (below_step (by exact pz5) hb); clear HB; have HB := n0_; clear n0_; (try clear hb); )); go_ret2; exact ⟨by exact pz8, by exact pz5⟩
  replace c3 := Bool.eq_false_iff.mpr c3; subst c3; have H1 : (some ((⟨#[]⟩ : ByteArray), false)) = some (r1, r2) := by rw [if_neg (show ¬ (false = true) by decide)] at H; first | exact H | (simp only [append_nothing] at H; exact H)
  clear H; have H := H1; clear H1; simp only [Option.some.injEq, Prod.mk.injEq] at H; obtain ⟨rfl, rfl⟩ := H; go_enter Tryz.func118, Tryz.ntmps118; go_wp2_with (first | ((with_reducible refine gate_callee (f := 139) rfl ?_); refine goesL_ (some 7) rfl rfl Tryz.func139 (by kernel_rfl) rfl #[.int .u64 a0] rfl (by exact pz7) ?_; (with_reducible refine (ieee_Integral.calls a0 false _ A2.out).mono ?_); rintro e w15 ⟨rfl, hb⟩; refine ⟨_, rfl, ?_⟩; have n0_ := Aside0.mk (below_step (by exact pz5) hb); clear HB; have HB := n0_; clear n0_; (try clear hb); )); go_ret2; exact ⟨by exact pz8, by exact pz5⟩

/-! ### value_byFormat: function 95 -/
def value_byFormat.f (k : Nat) (a0 : Int) (a1 : ByteArray) : Option (ByteArray × Int) := (value_Integer.f k a0).bind fun t => (if t.2 = true then some (t.1, 0) else none)
theorem value_byFormat.mono : ∀ a0 a1 k, LeO (value_byFormat.f k a0 a1) (value_byFormat.f (k + 1) a0 a1) := by
  intro a0 a1 k; unfold value_byFormat.f; exact LeO.bind (value_Integer.mono _ _) (fun _ => LeO.refl _)
set_option maxHeartbeats 1000000 in
set_option maxRecDepth 100000 in
theorem value_byFormat.calls (k : Nat) (a0 : Int) (a1 : ByteArray) (r1 : ByteArray) (r2 : Int) (w : World) (h : value_byFormat.f k a0 a1 = some (r1, r2)) (HG : Aside0 (GW w) := by exact pz2) :
    Calls Tryz.prog 95 #[.int .u64 a0, .string a1] w fun e w' => e = .returned (.tuple #[.string r1, .int .i64 r2]) ∧ Below w.heap.size w w' := by
  unfold value_byFormat.f at h; obtain ⟨⟨t1, t2⟩, ht, h⟩ := Option.bind_eq_some_iff.mp h; cases t2 with
  | false => cases h
  | true =>
  rw [if_pos rfl] at h; cases h
  go_enter Tryz.func95, Tryz.ntmps95; go_wp2_with fail; refine (value_Integer.calls k a0 t1 true _ ht ⟨HG.out.below (by repeat (first | exact Below.refl _ _ | apply below_alloc))⟩).mono ?_; rintro e w1 ⟨rfl, hb⟩; have HB := Lib.hid hb; clear hb; go_wp2_with fail; go_ret2; exact ⟨rfl, HB.out⟩

/-! ### value_ToStr: function 67 -/
def value_ToStr.f (k : Nat) (a0_0 : Int) (a0_1 : Int) (a0_2 : ByteArray) (a1 : ByteArray) : Option (ByteArray × Int) := if a0_0 = 1 then (value_byFormat.f k a0_1 a1).bind fun t => (if t.2 = 0 then some t else none) else some (if a0_0 = 2 ∨ a0_0 = 3 then a0_2 else ⟨#[]⟩, 0)
theorem value_ToStr.mono : ∀ a0_0 a0_1 a0_2 a1 k, LeO (value_ToStr.f k a0_0 a0_1 a0_2 a1) (value_ToStr.f (k + 1) a0_0 a0_1 a0_2 a1) := by
  intro a0_0 a0_1 a0_2 a1 k; unfold value_ToStr.f; exact LeO.ite (LeO.bind (value_byFormat.mono _ _ _) (fun _ => LeO.refl _)) (LeO.refl _)
theorem value_ToStr.calls (k : Nat) (a0_0 : Int) (a0_1 : Int) (a0_2 : ByteArray) (a1 : ByteArray) (r1 : ByteArray) (r2 : Int) (w : World) (h : value_ToStr.f k a0_0 a0_1 a0_2 a1 = some (r1, r2)) (HG : Aside0 (GW w) := by exact pz2) :
    Calls Tryz.prog 67 #[.agg #[.int .i64 a0_0, .int .u64 a0_1, .string a0_2], .string a1] w fun e w' => e = .returned (.tuple #[.string r1, .int .i64 r2]) ∧ Below w.heap.size w w' := by
  unfold value_ToStr.f at h; by_cases c1 : a0_0 = 1
  · subst c1
    rw [if_pos rfl] at h; obtain ⟨⟨t1, t2⟩, ht, h⟩ := Option.bind_eq_some_iff.mp h; split at h
    · rename_i h0
      have h0' : t2 = 0 := h0; subst h0'; cases h
      exact ToStr_1 a0_1 a0_2 a1 r1 w fun u hb => (value_byFormat.calls k a0_1 a1 r1 0 u ht ⟨HG.out.below hb⟩)
    cases h
  by_cases c2 : a0_0 = 2
  · subst c2
    cases h
    exact (ToStr_2 a0_1 a0_2 a1 w)
  by_cases c3 : a0_0 = 3
  · subst c3
    cases h
    exact (ToStr_3 a0_1 a0_2 a1 w)
  have d1 : (a0_0 == 1) = false := beq_eq_false_iff_ne.mpr c1; have d2 : (a0_0 == 2) = false := beq_eq_false_iff_ne.mpr c2; have d3 : (a0_0 == 3) = false := beq_eq_false_iff_ne.mpr c3; rw [if_neg c1, if_neg (by omega)] at h; cases h
  exact (ToStr_0 a0_0 a0_1 a0_2 a1 w d1 d2 d3)

end Go.Proofs.YtmbacdkpgfbclaaGreatDoor.PXI
