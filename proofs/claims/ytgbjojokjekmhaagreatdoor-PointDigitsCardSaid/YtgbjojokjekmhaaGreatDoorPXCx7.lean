/- The machine's side of a law, printed by a program of this session out of the translation; conditions: none. -/
import Derived.Test.YtgbjojokjekmhaaGreatDoorPXCx0
import Derived.Test.YtgbjojokjekmhaaGreatDoorPXCx3
import Derived.Test.YtgbjojokjekmhaaGreatDoorPXCx6
namespace Go.Proofs.YtgbjojokjekmhaaGreatDoor.PXC
open Go.Proofs.YtgbjojokjekmhaaGreatDoor
open Go.RowKit Go.Proofs.YtgbjojokjekmhaaGreatDoorW.PrintWords Go.Proofs.YtgbjojokjekmhaaGreatDoorW.PrintLast Go.Proofs.YtgbjojokjekmhaaGreatDoorW.PrintMore
attribute [local go_sem] max2_int min2_int max_two min_two max_three min_three max_four min_four   -- for this text's walks alone
set_option linter.unusedVariables false
set_option linter.unusedSimpArgs false

theorem phCx7_6 {P : Prop} (h : P := by (with_reducible repeat (first | apply Kd.R_alloc | apply Kd.R_drewN | apply Kd.R_drew)); exact HO197.out) : P := h
theorem phCx7_7 {P : Prop} (h : P := by (with_reducible repeat (first | apply Kd.V_alloc | apply Kd.V_drewN | apply Kd.V_drew)); exact HO_9.out) : P := h
/-! ### quot_Pow: function 104 -/
mutual
def quot_Pow.l0 : Nat → Int → List Int → List Int → Int → Option (List Int × Int)
  | 0, _, _, _, _ => none
  | k + 1, x1, x6, x9, x10 => if x10 ≥ 0 then ((nat_Mul.f k x9 x9).bind fun bt206 => (if bt206.2 = 0 then (if 0 ≤ (IntKind.u64.wrap (x10)) then (quot_Pow.j1 k x1 x6 bt206.1 x10 bt206.2 ((Go.bits .and .i64 (shr .i64 x1 (IntKind.u64.wrap (x10))) 1) == 1)) else (none)) else (quot_Pow.j1 k x1 x6 bt206.1 x10 bt206.2 false))) else (some (x9, 0))
def quot_Pow.j1 : Nat → Int → List Int → List Int → Int → Int → Bool → Option (List Int × Int)
  | 0, _, _, _, _, _, _ => none
  | k + 1, x1, x6, x9, x10, x11, x67 => if x67 = true then ((nat_Mul.f k x9 x6).bind fun bt210 => (if bt210.2 = 0 then (quot_Pow.l0 k x1 x6 bt210.1 (wrap64 (x10 - 1))) else (some (([] : List Int), bt210.2)))) else (if x11 = 0 then (quot_Pow.l0 k x1 x6 x9 (wrap64 (x10 - 1))) else (some (([] : List Int), x11)))
end
def quot_Pow.f (k : Nat) (l0 : List Int) (a1 : Int) : Option (List Int × Int) := (quot_small.f k l0 4096).bind fun bt194 => ((nat_BitLen.f k bt194.1).bind fun t198 => (if bt194.2 = true then (if a1 < 0 then (some (([] : List Int), 1)) else (if a1 = 0 then (some ((([1] : List Int)), 0)) else (if t198 ≤ 1 then (some (bt194.1, 0)) else (if a1 ≥ 262144 then (some (([] : List Int), 2)) else (if (wrap64 ((wrap64 (t198 - 1)) * a1)) ≥ 262144 then (some (([] : List Int), 2)) else ((bits_Len.f (IntKind.u64.wrap (a1))).bind fun t205 => (quot_Pow.l0 k a1 bt194.1 (([1] : List Int)) (wrap64 (t205 - 1))))))))) else (some (([] : List Int), 2))))
theorem quot_Pow.mono_l : ∀ k, (∀ y0 y1 y2 y3, LeO (quot_Pow.l0 k y0 y1 y2 y3) (quot_Pow.l0 (k + 1) y0 y1 y2 y3)) ∧ (∀ y0 y1 y2 y3 y4 y5, LeO (quot_Pow.j1 k y0 y1 y2 y3 y4 y5) (quot_Pow.j1 (k + 1) y0 y1 y2 y3 y4 y5))
  | 0 => ⟨fun _ _ _ _ r h => by simp [quot_Pow.l0] at h, fun _ _ _ _ _ _ r h => by simp [quot_Pow.j1] at h⟩
  | k + 1 => by
    obtain ⟨ih0, ih1⟩ := quot_Pow.mono_l k
    refine ⟨?_, ?_⟩
    · intro y0 y1 y2 y3
      unfold quot_Pow.l0
      repeat' first
      | (with_reducible exact ih0 _ _ _ _)
      | (with_reducible exact ih1 _ _ _ _ _ _)
      | (with_reducible exact nat_BitLen.mono _ _)
      | (with_reducible exact nat_Mul.mono _ _ _)
      | (with_reducible exact quot_small.mono _ _ _)
      | (with_reducible exact LeO.refl _)
      | (with_reducible exact LeO.none _)
      | (with_reducible refine LeO.ite ?_ ?_)
      | (with_reducible refine LeO.bind ?_ (fun _ => ?_))
      | exact ih0 _ _ _ _
      | exact ih1 _ _ _ _ _ _
      | exact nat_BitLen.mono _ _
      | exact nat_Mul.mono _ _ _
      | exact quot_small.mono _ _ _
      | exact LeO.none _
      | refine LeO.ite ?_ ?_
      | refine LeO.bind ?_ (fun _ => ?_)
    · intro y0 y1 y2 y3 y4 y5
      unfold quot_Pow.j1
      repeat' first
      | (with_reducible exact ih0 _ _ _ _)
      | (with_reducible exact ih1 _ _ _ _ _ _)
      | (with_reducible exact nat_BitLen.mono _ _)
      | (with_reducible exact nat_Mul.mono _ _ _)
      | (with_reducible exact quot_small.mono _ _ _)
      | (with_reducible exact LeO.refl _)
      | (with_reducible exact LeO.none _)
      | (with_reducible refine LeO.ite ?_ ?_)
      | (with_reducible refine LeO.bind ?_ (fun _ => ?_))
      | exact ih0 _ _ _ _
      | exact ih1 _ _ _ _ _ _
      | exact nat_BitLen.mono _ _
      | exact nat_Mul.mono _ _ _
      | exact quot_small.mono _ _ _
      | exact LeO.none _
      | refine LeO.ite ?_ ?_
      | refine LeO.bind ?_ (fun _ => ?_)
theorem quot_Pow.mono : ∀ a0 a1 k, LeO (quot_Pow.f k a0 a1) (quot_Pow.f (k + 1) a0 a1) := by
  intro a0 a1 k; obtain ⟨ih0, ih1⟩ := quot_Pow.mono_l k; unfold quot_Pow.f; repeat' first
      | (with_reducible exact ih0 _ _ _ _)
      | (with_reducible exact ih1 _ _ _ _ _ _)
      | (with_reducible exact nat_BitLen.mono _ _)
      | (with_reducible exact nat_Mul.mono _ _ _)
      | (with_reducible exact quot_small.mono _ _ _)
      | (with_reducible exact LeO.refl _)
      | (with_reducible exact LeO.none _)
      | (with_reducible refine LeO.ite ?_ ?_)
      | (with_reducible refine LeO.bind ?_ (fun _ => ?_))
      | exact ih0 _ _ _ _
      | exact ih1 _ _ _ _ _ _
      | exact nat_BitLen.mono _ _
      | exact nat_Mul.mono _ _ _
      | exact quot_small.mono _ _ _
      | exact LeO.none _
      | refine LeO.ite ?_ ?_
      | refine LeO.bind ?_ (fun _ => ?_)
set_option maxHeartbeats 8000000 in
set_option maxRecDepth 100000 in
theorem quot_Pow.calls (k : Nat) (A0 : Option Addr) (c0 : Nat) (l0 : List Int) (a1 : Int) (r1 : List Int) (r2 : Int) (w : World) (hr0 : Kd.C (Kd.int .u64) w A0 l0.length l0) (hc0 : l0.length ≤ c0) (h : quot_Pow.f k l0 a1 = some (r1, r2)) (HG : Aside0 (GW w) := by exact pz5) :
    Calls Tryz.prog 104 #[.slice A0 l0.length c0, .int .i64 a1] w fun e w' => ∃ v0_ : Value, e = .returned (.tuple #[v0_, .int .i64 r2]) ∧ Kd.V (Kd.int .u64) 24 w' w.heap.size (fun k_ => (w.heap.size ≤ k_)) v0_ r1 ∧ Below w.heap.size w w' := by
  have HR0 := Aside0.mk hr0; have HC0 := Aside0.mk hc0; clear hr0 hc0; have HB := Aside0.mk (Below.refl w.heap.size w); have H : ((quot_small.f k l0 4096).bind fun bt194 => ((nat_BitLen.f k bt194.1).bind fun t198 => (if bt194.2 = true then (if a1 < 0 then (some (([] : List Int), 1)) else (if a1 = 0 then (some ((([1] : List Int)), 0)) else (if t198 ≤ 1 then (some (bt194.1, 0)) else (if a1 ≥ 262144 then (some (([] : List Int), 2)) else (if (wrap64 ((wrap64 (t198 - 1)) * a1)) ≥ 262144 then (some (([] : List Int), 2)) else ((bits_Len.f (IntKind.u64.wrap (a1))).bind fun t205 => (quot_Pow.l0 k a1 bt194.1 (([1] : List Int)) (wrap64 (t205 - 1))))))))) else (some (([] : List Int), 2))))) = some (r1, r2) := h; clear h; replace H := Option.bind_eq_some_iff.mp H; obtain ⟨⟨t194, t195⟩, A30, H⟩ := H; (try dsimp only at H); have A3 := Aside0.mk A30; clear A30; replace H := Option.bind_eq_some_iff.mp H; obtain ⟨t198, A40, H⟩ := H; (try dsimp only at H); have A4 := Aside0.mk A40; clear A40; by_cases c5 : t195 = true
  · subst c5
    have H1 : (if a1 < 0 then (some (([] : List Int), 1)) else (if a1 = 0 then (some ((([1] : List Int)), 0)) else (if t198 ≤ 1 then (some (t194, 0)) else (if a1 ≥ 262144 then (some (([] : List Int), 2)) else (if (wrap64 ((wrap64 (t198 - 1)) * a1)) ≥ 262144 then (some (([] : List Int), 2)) else ((bits_Len.f (IntKind.u64.wrap (a1))).bind fun t205 => (quot_Pow.l0 k a1 t194 (([1] : List Int)) (wrap64 (t205 - 1))))))))) = some (r1, r2) := by rw [if_pos rfl] at H; exact H
    clear H; have H := H1; clear H1; by_cases c6 : a1 < 0
    · rw [if_pos c6] at H
      have c6b0 : decide (a1 < 0) = true := decide_eq_true c6; clear c6; simp only [Option.some.injEq, Prod.mk.injEq] at H; obtain ⟨rfl, rfl⟩ := H; go_enter Tryz.func104, Tryz.ntmps104; go_wp2_with (first | ((with_reducible refine gate_callee (f := 148) rfl ?_); refine goesL_ (some 14) rfl rfl Tryz.func148 (by kernel_rfl) rfl #[.slice A0 l0.length c0, .int .i64 4096] rfl (by exact pz4) ?_; (with_reducible refine (quot_small.calls k _ _ l0 4096 t194 true _ ?side1 ?side2 A3.out).mono ?_); (case side1 => repeat (first | exact HR0.out | (with_reducible refine Kd.C_alloc ?_ _) | (with_reducible refine Kd.C_drewN ?_ _) | (with_reducible refine Kd.C_drew ?_))); (case side2 => exact HC0.out); rintro e w7 ⟨v196, rfl, ho0, hb⟩; refine ⟨_, rfl, ?_⟩; have n0_ := Aside0.mk (Kd.R_lower (Kd.R_newM (M := fun k_ => (w.heap.size ≤ k_)) ho0 (below_size (by exact pz1)) (fun k_ h_ => h_)) (below_size (by exact pz1))); have n1_ := Aside0.mk (below_step (by exact pz1) hb); clear HB; have HO197 := n0_; have HB := n1_; clear n0_ n1_; (try clear hb); (try clear hb2); (try clear hk); (try clear hi); (try clear ho0); obtain ⟨Ao8, co8, eo8⟩ := Kd.R_slice HO197.out; subst eo8) | ((with_reducible refine gate_callee (f := 149) rfl ?_); refine goesL_ (some 18) rfl rfl Tryz.func149 (by kernel_rfl) rfl #[.slice Ao8 t194.length co8] rfl (by exact pz4) ?_; (with_reducible refine (nat_BitLen.calls k _ _ t194 t198 _ ?side1 ?side2 A4.out).mono ?_); (case side1 => repeat (first | exact (Kd.R_reads' HO197.out).2.2 | (with_reducible refine Kd.C_alloc ?_ _) | (with_reducible refine Kd.C_drewN ?_ _) | (with_reducible refine Kd.C_drew ?_))); (case side2 => exact (Kd.R_reads' HO197.out).2.1); rintro e w' ⟨rfl, ⟨nd, rfl⟩⟩; refine ⟨_, rfl, ?_⟩)); go_ret2; exact ⟨_, by exact pz2, Kd.V_nil _ _ _ _ _, by exact pz1⟩
    rw [if_neg c6] at H; have c6b0 : decide (a1 < 0) = false := decide_eq_false c6; clear c6; by_cases c9 : a1 = 0
    · rw [if_pos c9] at H
      have c9b0 : (a1 == 0) = true := beq_iff_eq.mpr c9; have c9b1 : (a1 != 0) = false := bne_eq_false_iff_eq.mpr c9; clear c9; obtain ⟨y199, hy199⟩ : ∃ y_ : List Int, y_ = (([1] : List Int)) := ⟨_, rfl⟩; replace H : (some (y199, 0)) = some (r1, r2) := by first | (rw [hy199]; with_reducible exact H) | (have H2_ := (Option.bind_some _ _).symm.trans H; rw [hy199]; with_reducible exact H2_) | (have H2_ := (Option.bind_some _ _).symm.trans H; with_reducible exact H2_) | with_reducible exact H | (rw [hy199]; exact H) | exact H
      have Ny199 := Aside0.mk hy199; clear hy199; simp only [Option.some.injEq, Prod.mk.injEq] at H; obtain ⟨rfl, rfl⟩ := H; go_enter Tryz.func104, Tryz.ntmps104; go_wp2_with (first | ((with_reducible refine gate_callee (f := 148) rfl ?_); refine goesL_ (some 14) rfl rfl Tryz.func148 (by kernel_rfl) rfl #[.slice A0 l0.length c0, .int .i64 4096] rfl (by exact pz4) ?_; (with_reducible refine (quot_small.calls k _ _ l0 4096 t194 true _ ?side1 ?side2 A3.out).mono ?_); (case side1 => repeat (first | exact HR0.out | (with_reducible refine Kd.C_alloc ?_ _) | (with_reducible refine Kd.C_drewN ?_ _) | (with_reducible refine Kd.C_drew ?_))); (case side2 => exact HC0.out); rintro e w10 ⟨v196, rfl, ho0, hb⟩; refine ⟨_, rfl, ?_⟩; have n0_ := Aside0.mk (Kd.R_lower (Kd.R_newM (M := fun k_ => (w.heap.size ≤ k_)) ho0 (below_size (by exact pz1)) (fun k_ h_ => h_)) (below_size (by exact pz1))); have n1_ := Aside0.mk (below_step (by exact pz1) hb); clear HB; have HO197 := n0_; have HB := n1_; clear n0_ n1_; (try clear hb); (try clear hb2); (try clear hk); (try clear hi); (try clear ho0); obtain ⟨Ao11, co11, eo11⟩ := Kd.R_slice HO197.out; subst eo11) | ((with_reducible refine gate_callee (f := 149) rfl ?_); refine goesL_ (some 18) rfl rfl Tryz.func149 (by kernel_rfl) rfl #[.slice Ao11 t194.length co11] rfl (by exact pz4) ?_; (with_reducible refine (nat_BitLen.calls k _ _ t194 t198 _ ?side1 ?side2 A4.out).mono ?_); (case side1 => repeat (first | exact (Kd.R_reads' HO197.out).2.2 | (with_reducible refine Kd.C_alloc ?_ _) | (with_reducible refine Kd.C_drewN ?_ _) | (with_reducible refine Kd.C_drew ?_))); (case side2 => exact (Kd.R_reads' HO197.out).2.1); rintro e w' ⟨rfl, ⟨nd, rfl⟩⟩; refine ⟨_, rfl, ?_⟩) | ((with_reducible refine gate_dst (N := 28) rfl ?_); refine Kd.R_lit (Kd.int .u64) _ 24 ?hg (N := 28) ?hd (xs := ([1] : List Int)) (inner := [.int .u64 1]) (ok := fun _ => True) (okp := fun _ => True) ?hr ?hp (fun _ hk => hk) trivial (Below.refl _ _) (Nat.le_refl _) (by simp) ?_; (case hd => rfl); (case hg => rfl); (case hr => first | (go_simp; done) | (go_simp; rfl)); (case hp => exact (Reps.one (show Kd.M (Kd.int .u64) _ _ _ 1 [.int .u64 1] from rfl) (Reps.none _ _))); intro v200 w12 ho13 hb hg_ hnew_; clear hg_ hnew_; (first | rw [← Ny199.out] at ho13 | (simp only [Int.reduceToNat] at ho13; rw [← Ny199.out] at ho13)); have n0_ := Aside0.mk (Kd.R_elder' (by exact phCx7_6) (Kd.R_base ho13) hb); have n1_ := Aside0.mk (Kd.R_lower (Kd.R_new' (Kd.R_newM (M := fun k_ => (w.heap.size ≤ k_)) ho13 (below_size (by exact pz1)) (fun k_ h_ => h_)) (Kd.R_lt (by exact phCx7_6))) (below_size (by exact pz1))); have n2_ := Aside0.mk (below_step (by exact pz1) hb); clear HO197; clear HB; have HO197 := n0_; have HO201 := n1_; have HB := n2_; clear n0_ n1_ n2_; clear hb ho13)); go_ret2; exact ⟨_, by exact pz2, Kd.R_V (by (with_reducible repeat (first | apply Kd.R_alloc | apply Kd.R_drewN | apply Kd.R_drew)); exact Kd.R_mono HO201.out (fun _ hk => hk.1.1)), by exact pz1⟩
    rw [if_neg c9] at H; have c9b0 : (a1 == 0) = false := beq_eq_false_iff_ne.mpr c9; have c9b1 : (a1 != 0) = true := bne_iff_ne.mpr c9; by_cases c14 : t198 ≤ 1
    · rw [if_pos c14] at H
      have c14b0 : decide (t198 ≤ 1) = true := decide_eq_true c14; clear c14; simp only [Option.some.injEq, Prod.mk.injEq] at H; obtain ⟨rfl, rfl⟩ := H; go_enter Tryz.func104, Tryz.ntmps104; go_wp2_with (first | ((with_reducible refine gate_callee (f := 148) rfl ?_); refine goesL_ (some 14) rfl rfl Tryz.func148 (by kernel_rfl) rfl #[.slice A0 l0.length c0, .int .i64 4096] rfl (by exact pz4) ?_; (with_reducible refine (quot_small.calls k _ _ l0 4096 t194 true _ ?side1 ?side2 A3.out).mono ?_); (case side1 => repeat (first | exact HR0.out | (with_reducible refine Kd.C_alloc ?_ _) | (with_reducible refine Kd.C_drewN ?_ _) | (with_reducible refine Kd.C_drew ?_))); (case side2 => exact HC0.out); rintro e w15 ⟨v196, rfl, ho0, hb⟩; refine ⟨_, rfl, ?_⟩; have n0_ := Aside0.mk (Kd.R_lower (Kd.R_newM (M := fun k_ => (w.heap.size ≤ k_)) ho0 (below_size (by exact pz1)) (fun k_ h_ => h_)) (below_size (by exact pz1))); have n1_ := Aside0.mk (below_step (by exact pz1) hb); clear HB; have HO197 := n0_; have HB := n1_; clear n0_ n1_; (try clear hb); (try clear hb2); (try clear hk); (try clear hi); (try clear ho0); obtain ⟨Ao16, co16, eo16⟩ := Kd.R_slice HO197.out; subst eo16) | ((with_reducible refine gate_callee (f := 149) rfl ?_); refine goesL_ (some 18) rfl rfl Tryz.func149 (by kernel_rfl) rfl #[.slice Ao16 t194.length co16] rfl (by exact pz4) ?_; (with_reducible refine (nat_BitLen.calls k _ _ t194 t198 _ ?side1 ?side2 A4.out).mono ?_); (case side1 => repeat (first | exact (Kd.R_reads' HO197.out).2.2 | (with_reducible refine Kd.C_alloc ?_ _) | (with_reducible refine Kd.C_drewN ?_ _) | (with_reducible refine Kd.C_drew ?_))); (case side2 => exact (Kd.R_reads' HO197.out).2.1); rintro e w' ⟨rfl, ⟨nd, rfl⟩⟩; refine ⟨_, rfl, ?_⟩)); go_ret2; exact ⟨_, by exact pz2, Kd.R_V (by (with_reducible repeat (first | apply Kd.R_alloc | apply Kd.R_drewN | apply Kd.R_drew)); exact Kd.R_mono HO197.out (fun _ hk => hk.1)), by exact pz1⟩
    rw [if_neg c14] at H; have c14b0 : decide (t198 ≤ 1) = false := decide_eq_false c14; clear c14; by_cases c17 : a1 ≥ 262144
    · rw [if_pos c17] at H
      have c17b0 : decide (262144 ≤ a1) = true := decide_eq_true c17; clear c17; simp only [Option.some.injEq, Prod.mk.injEq] at H; obtain ⟨rfl, rfl⟩ := H; go_enter Tryz.func104, Tryz.ntmps104; go_wp2_with (first | ((with_reducible refine gate_callee (f := 148) rfl ?_); refine goesL_ (some 14) rfl rfl Tryz.func148 (by kernel_rfl) rfl #[.slice A0 l0.length c0, .int .i64 4096] rfl (by exact pz4) ?_; (with_reducible refine (quot_small.calls k _ _ l0 4096 t194 true _ ?side1 ?side2 A3.out).mono ?_); (case side1 => repeat (first | exact HR0.out | (with_reducible refine Kd.C_alloc ?_ _) | (with_reducible refine Kd.C_drewN ?_ _) | (with_reducible refine Kd.C_drew ?_))); (case side2 => exact HC0.out); rintro e w18 ⟨v196, rfl, ho0, hb⟩; refine ⟨_, rfl, ?_⟩; have n0_ := Aside0.mk (Kd.R_lower (Kd.R_newM (M := fun k_ => (w.heap.size ≤ k_)) ho0 (below_size (by exact pz1)) (fun k_ h_ => h_)) (below_size (by exact pz1))); have n1_ := Aside0.mk (below_step (by exact pz1) hb); clear HB; have HO197 := n0_; have HB := n1_; clear n0_ n1_; (try clear hb); (try clear hb2); (try clear hk); (try clear hi); (try clear ho0); obtain ⟨Ao19, co19, eo19⟩ := Kd.R_slice HO197.out; subst eo19) | ((with_reducible refine gate_callee (f := 149) rfl ?_); refine goesL_ (some 18) rfl rfl Tryz.func149 (by kernel_rfl) rfl #[.slice Ao19 t194.length co19] rfl (by exact pz4) ?_; (with_reducible refine (nat_BitLen.calls k _ _ t194 t198 _ ?side1 ?side2 A4.out).mono ?_); (case side1 => repeat (first | exact (Kd.R_reads' HO197.out).2.2 | (with_reducible refine Kd.C_alloc ?_ _) | (with_reducible refine Kd.C_drewN ?_ _) | (with_reducible refine Kd.C_drew ?_))); (case side2 => exact (Kd.R_reads' HO197.out).2.1); rintro e w' ⟨rfl, ⟨nd, rfl⟩⟩; refine ⟨_, rfl, ?_⟩)); go_ret2; exact ⟨_, by exact pz2, Kd.V_nil _ _ _ _ _, by exact pz1⟩
    rw [if_neg c17] at H; have c17b0 : decide (262144 ≤ a1) = false := decide_eq_false c17; clear c17; by_cases c20 : (wrap64 ((wrap64 (t198 - 1)) * a1)) ≥ 262144
    · rw [if_pos c20] at H
      have c20b0 : decide (262144 ≤ (wrap64 ((wrap64 (t198 - 1)) * a1))) = true := decide_eq_true c20; clear c20; simp only [Option.some.injEq, Prod.mk.injEq] at H; obtain ⟨rfl, rfl⟩ := H; go_enter Tryz.func104, Tryz.ntmps104; go_wp2_with (first | ((with_reducible refine gate_callee (f := 148) rfl ?_); refine goesL_ (some 14) rfl rfl Tryz.func148 (by kernel_rfl) rfl #[.slice A0 l0.length c0, .int .i64 4096] rfl (by exact pz4) ?_; (with_reducible refine (quot_small.calls k _ _ l0 4096 t194 true _ ?side1 ?side2 A3.out).mono ?_); (case side1 => repeat (first | exact HR0.out | (with_reducible refine Kd.C_alloc ?_ _) | (with_reducible refine Kd.C_drewN ?_ _) | (with_reducible refine Kd.C_drew ?_))); (case side2 => exact HC0.out); rintro e w21 ⟨v196, rfl, ho0, hb⟩; refine ⟨_, rfl, ?_⟩; have n0_ := Aside0.mk (Kd.R_lower (Kd.R_newM (M := fun k_ => (w.heap.size ≤ k_)) ho0 (below_size (by exact pz1)) (fun k_ h_ => h_)) (below_size (by exact pz1))); have n1_ := Aside0.mk (below_step (by exact pz1) hb); clear HB; have HO197 := n0_; have HB := n1_; clear n0_ n1_; (try clear hb); (try clear hb2); (try clear hk); (try clear hi); (try clear ho0); obtain ⟨Ao22, co22, eo22⟩ := Kd.R_slice HO197.out; subst eo22) | ((with_reducible refine gate_callee (f := 149) rfl ?_); refine goesL_ (some 18) rfl rfl Tryz.func149 (by kernel_rfl) rfl #[.slice Ao22 t194.length co22] rfl (by exact pz4) ?_; (with_reducible refine (nat_BitLen.calls k _ _ t194 t198 _ ?side1 ?side2 A4.out).mono ?_); (case side1 => repeat (first | exact (Kd.R_reads' HO197.out).2.2 | (with_reducible refine Kd.C_alloc ?_ _) | (with_reducible refine Kd.C_drewN ?_ _) | (with_reducible refine Kd.C_drew ?_))); (case side2 => exact (Kd.R_reads' HO197.out).2.1); rintro e w' ⟨rfl, ⟨nd, rfl⟩⟩; refine ⟨_, rfl, ?_⟩)); go_ret2; exact ⟨_, by exact pz2, Kd.V_nil _ _ _ _ _, by exact pz1⟩
    rw [if_neg c20] at H; have c20b0 : decide (262144 ≤ (wrap64 ((wrap64 (t198 - 1)) * a1))) = false := decide_eq_false c20; clear c20; obtain ⟨y202, hy202⟩ : ∃ y_ : List Int, y_ = (([1] : List Int)) := ⟨_, rfl⟩; replace H : ((bits_Len.f (IntKind.u64.wrap (a1))).bind fun t205 => (quot_Pow.l0 k a1 t194 y202 (wrap64 (t205 - 1)))) = some (r1, r2) := by first | (rw [hy202]; with_reducible exact H) | (have H2_ := (Option.bind_some _ _).symm.trans H; rw [hy202]; with_reducible exact H2_) | (have H2_ := (Option.bind_some _ _).symm.trans H; with_reducible exact H2_) | with_reducible exact H | (rw [hy202]; exact H) | exact H
    have Ny202 := Aside0.mk hy202; clear hy202; replace H := Option.bind_eq_some_iff.mp H; obtain ⟨t205, A230, H⟩ := H; (try dsimp only at H); have A23 := Aside0.mk A230; clear A230; have H' := Aside0.mk H; clear H; go_enter Tryz.func104, Tryz.ntmps104; go_wp2_with (first | ((with_reducible refine gate_callee (f := 148) rfl ?_); refine goesL_ (some 14) rfl rfl Tryz.func148 (by kernel_rfl) rfl #[.slice A0 l0.length c0, .int .i64 4096] rfl (by exact pz4) ?_; (with_reducible refine (quot_small.calls k _ _ l0 4096 t194 true _ ?side1 ?side2 A3.out).mono ?_); (case side1 => repeat (first | exact HR0.out | (with_reducible refine Kd.C_alloc ?_ _) | (with_reducible refine Kd.C_drewN ?_ _) | (with_reducible refine Kd.C_drew ?_))); (case side2 => exact HC0.out); rintro e w24 ⟨v196, rfl, ho0, hb⟩; refine ⟨_, rfl, ?_⟩; have n0_ := Aside0.mk (Kd.R_lower (Kd.R_newM (M := fun k_ => (w.heap.size ≤ k_)) ho0 (below_size (by exact pz1)) (fun k_ h_ => h_)) (below_size (by exact pz1))); have n1_ := Aside0.mk (below_step (by exact pz1) hb); clear HB; have HO197 := n0_; have HB := n1_; clear n0_ n1_; (try clear hb); (try clear hb2); (try clear hk); (try clear hi); (try clear ho0); obtain ⟨Ao25, co25, eo25⟩ := Kd.R_slice HO197.out; subst eo25) | ((with_reducible refine gate_callee (f := 149) rfl ?_); refine goesL_ (some 18) rfl rfl Tryz.func149 (by kernel_rfl) rfl #[.slice Ao25 t194.length co25] rfl (by exact pz4) ?_; (with_reducible refine (nat_BitLen.calls k _ _ t194 t198 _ ?side1 ?side2 A4.out).mono ?_); (case side1 => repeat (first | exact (Kd.R_reads' HO197.out).2.2 | (with_reducible refine Kd.C_alloc ?_ _) | (with_reducible refine Kd.C_drewN ?_ _) | (with_reducible refine Kd.C_drew ?_))); (case side2 => exact (Kd.R_reads' HO197.out).2.1); rintro e w' ⟨rfl, ⟨nd, rfl⟩⟩; refine ⟨_, rfl, ?_⟩) | ((with_reducible refine gate_dst (N := 43) rfl ?_); refine Kd.R_lit (Kd.int .u64) _ 24 ?hg (N := 43) ?hd (xs := ([1] : List Int)) (inner := [.int .u64 1]) (ok := fun _ => True) (okp := fun _ => True) ?hr ?hp (fun _ hk => hk) trivial (Below.refl _ _) (Nat.le_refl _) (by simp) ?_; (case hd => rfl); (case hg => rfl); (case hr => first | (go_simp; done) | (go_simp; rfl)); (case hp => exact (Reps.one (show Kd.M (Kd.int .u64) _ _ _ 1 [.int .u64 1] from rfl) (Reps.none _ _))); intro v203 w26 ho27 hb hg_ hnew_; clear hg_ hnew_; (first | rw [← Ny202.out] at ho27 | (simp only [Int.reduceToNat] at ho27; rw [← Ny202.out] at ho27)); have n0_ := Aside0.mk (Kd.R_elder' (by exact phCx7_6) (Kd.R_base ho27) hb); have n1_ := Aside0.mk (Kd.R_lower (Kd.R_new' (Kd.R_newM (M := fun k_ => (w.heap.size ≤ k_)) ho27 (below_size (by exact pz1)) (fun k_ h_ => h_)) (Kd.R_lt (by exact phCx7_6))) (below_size (by exact pz1))); have n2_ := Aside0.mk (below_step (by exact pz1) hb); clear HO197; clear HB; have HO197 := n0_; have HO204 := n1_; have HB := n2_; clear n0_ n1_ n2_; clear hb ho27) | ((with_reducible refine gate_callee (f := 150) rfl ?_); refine goesL_ (some 46) rfl rfl Tryz.func150 (by kernel_rfl) rfl #[.int .u64 (IntKind.u64.wrap (a1))] rfl (by exact pz4) ?_; (with_reducible refine (bits_Len.calls (IntKind.u64.wrap (a1)) t205 _ A23.out).mono ?_); rintro e w' ⟨rfl, ⟨nd, rfl⟩⟩; refine ⟨_, rfl, ?_⟩)); go_loopg [9, 10] k (fun kq v9 v10 w' => ∃ (x9_1 : List Int) (x10_1 : Int), v10 = .int .i64 x10_1 ∧ Aside0 (quot_Pow.l0 kq a1 t194 x9_1 x10_1 = some (r1, r2)) ∧ Aside0 (kq ≤ k) ∧ Aside0 (Kd.R (Kd.int .u64) 24 w' w.heap.size (fun k_ => (w.heap.size ≤ k_)) (.slice Ao25 t194.length co25) t194) ∧ Aside0 (Kd.V (Kd.int .u64) 24 w' w.heap.size (fun k_ => (w.heap.size ≤ k_) ∧ some k_ ≠ ((.slice Ao25 t194.length co25) : Value).ownBlock) v9 x9_1) ∧ Aside0 (Below w.heap.size w w'))
    case atStart => exact ⟨(y202), (wrap64 (t205 - 1)), (by exact pz3), H', ⟨Nat.le_refl _⟩, ⟨by (with_reducible repeat (first | apply Kd.R_alloc | apply Kd.R_drewN | apply Kd.R_drew)); exact Kd.R_mono HO197.out (fun _ hk => hk.1.1)⟩, ⟨Kd.R_V (by (with_reducible repeat (first | apply Kd.R_alloc | apply Kd.R_drewN | apply Kd.R_drew)); exact Kd.R_mono HO204.out (fun _ hk => ⟨hk.1.1, hk.2⟩))⟩, ⟨by exact pz1⟩⟩
    case round =>
      clear H'; (try clear c1); (try clear c2); (try clear p2); (try clear c5); (try clear c6); (try clear c6b0); (try clear p6); (try clear c9); (try clear c9b0); (try clear c9b1); (try clear c10); (try clear c14); (try clear c14b0); (try clear c15); (try clear c17); (try clear c17b0); (try clear c20); (try clear c20b0); obtain ⟨x9_1, x10_1, rfl, HA, HK1, HO_6, HO_9, HB⟩ := hrel; cases gk with
      | zero => exact absurd HA.out (by simp [quot_Pow.l0])
      | succ k1 =>
        have H := HA.out; clear HA; simp only [quot_Pow.l0] at H; by_cases c28 : x10_1 ≥ 0
        · rw [if_pos c28] at H
          have c28b0 : decide (0 ≤ x10_1) = true := decide_eq_true c28; clear c28; replace H := Option.bind_eq_some_iff.mp H; obtain ⟨⟨t206, t209⟩, A290, H⟩ := H; (try dsimp only at H); have A29 := Aside0.mk A290; clear A290; have HC30 := Aside0.mk H; clear H; obtain ⟨Ao31, co31, eo31⟩ := Kd.V_slice HO_9.out; subst eo31; go_upto_region 19 with (first | ((with_reducible refine gate_callee (f := 63) rfl ?_); refine goesL_ (some 55) rfl rfl Tryz.func63 (by kernel_rfl) rfl #[.slice Ao31 x9_1.length co31, .slice Ao31 x9_1.length co31] rfl (by exact pz4) ?_; (with_reducible refine (nat_Mul.calls k1 _ _ x9_1 _ _ x9_1 t206 t209 _ ?side1 ?side2 ?side3 ?side4 A29.out).mono ?_); (case side1 => repeat (first | exact (Kd.V_reads' HO_9.out).2.2 | (with_reducible refine Kd.C_alloc ?_ _) | (with_reducible refine Kd.C_drewN ?_ _) | (with_reducible refine Kd.C_drew ?_))); (case side2 => exact (Kd.V_reads' HO_9.out).2.1); (case side3 => repeat (first | exact (Kd.V_reads' HO_9.out).2.2 | (with_reducible refine Kd.C_alloc ?_ _) | (with_reducible refine Kd.C_drewN ?_ _) | (with_reducible refine Kd.C_drew ?_))); (case side4 => exact (Kd.V_reads' HO_9.out).2.1); rintro e w32 ⟨v207, rfl, ho0, hb⟩; refine ⟨_, rfl, ?_⟩; have n0_ := Aside0.mk (Kd.R_below (by exact pz9) hb); have n1_ := Aside0.mk (Kd.V_below (by exact phCx7_7) hb); have n2_ := Aside0.mk (Kd.V_lower (Kd.V_mono (ok' := fun k_ => (w.heap.size ≤ k_) ∧ some k_ ≠ (.slice Ao25 t194.length co25 : Value).ownBlock) ho0 (fun k_ hk_ => ⟨(Nat.le_trans (below_size (by exact pz1)) hk_), (Kd.fresh' (Kd.R_lt (by exact pz9)) k_ hk_)⟩)) (below_size (by exact pz1))); have n3_ := Aside0.mk (below_step (by exact pz1) hb); clear HO_6; clear HO_9; clear HB; have HO_6 := n0_; have HO_9 := n1_; have HO208 := n2_; have HB := n3_; clear n0_ n1_ n2_ n3_; (try clear hb); (try clear hb2); (try clear hk); (try clear hi); (try clear ho0)))
          (try simp only [Act.put, List.setIfInBounds_toArray, List.set_cons_zero, List.set_cons_succ])
          go_cut [67] (fun v67 wc => ∃ (kq : Nat) (x67_29 : Bool), v67 = .bool x67_29 ∧ Aside0 (quot_Pow.j1 kq a1 t194 t206 x10_1 t209 x67_29 = some (r1, r2)) ∧ Aside0 (kq ≤ k1) ∧ Aside0 (Kd.R (Kd.int .u64) 24 wc w.heap.size (fun k_ => (w.heap.size ≤ k_)) (.slice Ao25 t194.length co25) t194) ∧ Aside0 (Kd.V (Kd.int .u64) 24 wc w.heap.size (fun k_ => (w.heap.size ≤ k_) ∧ some k_ ≠ ((.slice Ao25 t194.length co25) : Value).ownBlock) v207 t206) ∧ Aside0 (Below w.heap.size w wc))
          case first =>
            have H := HC30.out; clear HC30; by_cases c33 : t209 = 0
            · rw [if_pos c33] at H
              have c33b0 : (t209 == 0) = true := beq_iff_eq.mpr c33; have c33b1 : (t209 != 0) = false := bne_eq_false_iff_eq.mpr c33; clear c33; (first | rw [c33b0] | (simp only [i64_w, i32_w]; rw [c33b0]) | skip)
              obtain ⟨ji34, hji34⟩ : ∃ j_ : Int, (IntKind.u64.wrap (x10_1)) = j_ := ⟨_, rfl⟩; replace H : (if 0 ≤ (ji34) then (quot_Pow.j1 k1 a1 t194 t206 x10_1 t209 ((Go.bits .and .i64 (shr .i64 a1 (ji34)) 1) == 1)) else (none)) = some (r1, r2) := by first | (rw [hji34] at H; exact H) | (simp only [hji34] at H ⊢; exact H)
              by_cases c35 : 0 ≤ (ji34)
              · rw [if_pos c35] at H
                have c35b0 := eq_true c35; have c35b1 : decide (0 ≤ (ji34)) = true := decide_eq_true c35; clear c35; obtain ⟨ji36, hji36⟩ : ∃ j_ : Int, (shr .i64 a1 (ji34)) = j_ := ⟨_, rfl⟩; replace H : (quot_Pow.j1 k1 a1 t194 t206 x10_1 t209 ((Go.bits .and .i64 (ji36) 1) == 1)) = some (r1, r2) := by first | (rw [hji36] at H; exact H) | (simp only [hji36] at H ⊢; exact H)
                have hji36_ : (a1 / 2 ^ min (ji34).toNat 64) = ji36 := hji36; have hji36z : (ji34) ≤ 64 → (a1 / 2 ^ (ji34).toNat) = ji36 := shr_small hji36; have H' := Aside0.mk H; clear H; go_wp2; go_meet
                case rel => exact ⟨_, (((Go.bits .and .i64 (ji36) 1) == 1)), (by first | rfl | (simp; done) | (simp only [← hji36] <;> (first | rfl | simp)) | (simp [*]; done)), H', ⟨by have := HK1.out; first | omega | exact Nat.le_refl _⟩, ⟨by exact pz9⟩, ⟨by (with_reducible repeat (first | apply Kd.V_alloc | apply Kd.V_drewN | apply Kd.V_drew)); exact HO208.out⟩, ⟨by exact pz1⟩⟩
              rw [if_neg c35] at H; exact absurd H (by simp)
            rw [if_neg c33] at H; have c33b0 : (t209 == 0) = false := beq_eq_false_iff_ne.mpr c33; have c33b1 : (t209 != 0) = true := bne_iff_ne.mpr c33; (first | rw [c33b0] | (simp only [i64_w, i32_w]; rw [c33b0]) | skip)
            have H' := Aside0.mk H; clear H; go_wp2; go_meet
            case rel => exact ⟨_, (false), (by exact pz3), H', ⟨by have := HK1.out; first | omega | exact Nat.le_refl _⟩, ⟨by exact pz9⟩, ⟨by (with_reducible repeat (first | apply Kd.V_alloc | apply Kd.V_drewN | apply Kd.V_drew)); exact HO208.out⟩, ⟨by exact pz1⟩⟩
          case rest =>
            clear HC30; (try clear c1); (try clear c2); (try clear p2); (try clear c3); (try clear c5); (try clear c6); (try clear c6b0); (try clear p6); (try clear c9); (try clear c9b0); (try clear c9b1); (try clear c10); (try clear c14); (try clear c14b0); (try clear c15); (try clear c17); (try clear c17b0); (try clear c20); (try clear c20b0); (try clear c28); (try clear c28b0); (try clear c33); (try clear c33b0); (try clear c33b1); (try clear c35); (try clear c35b0); (try clear c35b1); (try clear p2); (try clear p6); obtain ⟨kq, x67_29, rfl, HA, HJ29, HO_6, HO_9, HB⟩ := hcut; cases kq with
            | zero => exact absurd HA.out (by simp [quot_Pow.j1])
            | succ kj29 =>
              have H := HA.out; clear HA; simp only [quot_Pow.j1] at H; by_cases c37 : x67_29 = true
              · subst c37
                have H1 : ((nat_Mul.f kj29 t206 t194).bind fun bt210 => (if bt210.2 = 0 then (quot_Pow.l0 kj29 a1 t194 bt210.1 (wrap64 (x10_1 - 1))) else (some (([] : List Int), bt210.2)))) = some (r1, r2) := by rw [if_pos rfl] at H; exact H
                clear H; have H := H1; clear H1; replace H := Option.bind_eq_some_iff.mp H; obtain ⟨⟨t210, t213⟩, A380, H⟩ := H; (try dsimp only at H); have A38 := Aside0.mk A380; clear A380; by_cases c39 : t213 = 0
                · rw [if_pos c39] at H
                  have c39b0 : (t213 == 0) = true := beq_iff_eq.mpr c39; have c39b1 : (t213 != 0) = false := bne_eq_false_iff_eq.mpr c39; clear c39; have H' := Aside0.mk H; clear H; obtain ⟨Ao40, co40, eo40⟩ := Kd.V_slice HO_9.out; subst eo40; go_wp2_with (first | ((with_reducible refine gate_callee (f := 63) rfl ?_); refine goesL_ (some 71) rfl rfl Tryz.func63 (by kernel_rfl) rfl #[.slice Ao40 t206.length co40, .slice Ao25 t194.length co25] rfl (by exact pz4) ?_; (with_reducible refine (nat_Mul.calls kj29 _ _ t206 _ _ t194 t210 t213 _ ?side1 ?side2 ?side3 ?side4 A38.out).mono ?_); (case side1 => repeat (first | exact (Kd.V_reads' HO_9.out).2.2 | (with_reducible refine Kd.C_alloc ?_ _) | (with_reducible refine Kd.C_drewN ?_ _) | (with_reducible refine Kd.C_drew ?_))); (case side2 => exact (Kd.V_reads' HO_9.out).2.1); (case side3 => repeat (first | exact (Kd.R_reads' HO_6.out).2.2 | (with_reducible refine Kd.C_alloc ?_ _) | (with_reducible refine Kd.C_drewN ?_ _) | (with_reducible refine Kd.C_drew ?_))); (case side4 => exact (Kd.R_reads' HO_6.out).2.1); rintro e w41 ⟨v211, rfl, ho0, hb⟩; refine ⟨_, rfl, ?_⟩; have n0_ := Aside0.mk (Kd.R_below (by exact pz9) hb); have n1_ := Aside0.mk (Kd.V_below (by exact phCx7_7) hb); have n2_ := Aside0.mk (Kd.V_lower (Kd.V_mono (ok' := fun k_ => (w.heap.size ≤ k_) ∧ some k_ ≠ (.slice Ao25 t194.length co25 : Value).ownBlock) ho0 (fun k_ hk_ => ⟨(Nat.le_trans (below_size (by exact pz1)) hk_), (Kd.fresh' (Kd.R_lt (by exact pz9)) k_ hk_)⟩)) (below_size (by exact pz1))); have n3_ := Aside0.mk (below_step (by exact pz1) hb); clear HO_6; clear HO_9; clear HB; have HO_6 := n0_; have HO_9 := n1_; have HO212 := n2_; have HB := n3_; clear n0_ n1_ n2_ n3_; (try clear hb); (try clear hb2); (try clear hk); (try clear hi); (try clear ho0))); (try simp only [← hji36])
                  (try simp only [← hji34])
                  go_roundg kj29
                  case measure => have := HK1.out; have := HJ29.out; omega
                  case rel => exact ⟨(t210), (wrap64 (x10_1 - 1)), (by exact pz3), (by first | exact H' | ((try rw [hji36]); (try rw [hji34]); exact H')), ⟨by have := HK1.out; have := HJ29.out; omega⟩, ⟨by exact pz9⟩, ⟨by (with_reducible repeat (first | apply Kd.V_alloc | apply Kd.V_drewN | apply Kd.V_drew)); exact HO212.out⟩, ⟨by exact pz1⟩⟩
                rw [if_neg c39] at H; have c39b0 : (t213 == 0) = false := beq_eq_false_iff_ne.mpr c39; have c39b1 : (t213 != 0) = true := bne_iff_ne.mpr c39; simp only [Option.some.injEq, Prod.mk.injEq] at H; obtain ⟨rfl, rfl⟩ := H; obtain ⟨Ao42, co42, eo42⟩ := Kd.V_slice HO_9.out; subst eo42; go_wp2_with (first | ((with_reducible refine gate_callee (f := 63) rfl ?_); refine goesL_ (some 71) rfl rfl Tryz.func63 (by kernel_rfl) rfl #[.slice Ao42 t206.length co42, .slice Ao25 t194.length co25] rfl (by exact pz4) ?_; (with_reducible refine (nat_Mul.calls kj29 _ _ t206 _ _ t194 t210 t213 _ ?side1 ?side2 ?side3 ?side4 A38.out).mono ?_); (case side1 => repeat (first | exact (Kd.V_reads' HO_9.out).2.2 | (with_reducible refine Kd.C_alloc ?_ _) | (with_reducible refine Kd.C_drewN ?_ _) | (with_reducible refine Kd.C_drew ?_))); (case side2 => exact (Kd.V_reads' HO_9.out).2.1); (case side3 => repeat (first | exact (Kd.R_reads' HO_6.out).2.2 | (with_reducible refine Kd.C_alloc ?_ _) | (with_reducible refine Kd.C_drewN ?_ _) | (with_reducible refine Kd.C_drew ?_))); (case side4 => exact (Kd.R_reads' HO_6.out).2.1); rintro e w43 ⟨v211, rfl, ho0, hb⟩; refine ⟨_, rfl, ?_⟩; have n0_ := Aside0.mk (Kd.R_below (by exact pz9) hb); have n1_ := Aside0.mk (Kd.V_below (by exact phCx7_7) hb); have n2_ := Aside0.mk (Kd.V_lower (Kd.V_mono (ok' := fun k_ => (w.heap.size ≤ k_) ∧ some k_ ≠ (.slice Ao25 t194.length co25 : Value).ownBlock) ho0 (fun k_ hk_ => ⟨(Nat.le_trans (below_size (by exact pz1)) hk_), (Kd.fresh' (Kd.R_lt (by exact pz9)) k_ hk_)⟩)) (below_size (by exact pz1))); have n3_ := Aside0.mk (below_step (by exact pz1) hb); clear HO_6; clear HO_9; clear HB; have HO_6 := n0_; have HO_9 := n1_; have HO212 := n2_; have HB := n3_; clear n0_ n1_ n2_ n3_; (try clear hb); (try clear hb2); (try clear hk); (try clear hi); (try clear ho0))); go_ret2; exact ⟨_, by exact pz2, Kd.V_nil _ _ _ _ _, by exact pz1⟩
              replace c37 := Bool.eq_false_iff.mpr c37; subst c37; have H1 : (if t209 = 0 then (quot_Pow.l0 kj29 a1 t194 t206 (wrap64 (x10_1 - 1))) else (some (([] : List Int), t209))) = some (r1, r2) := by rw [if_neg (show ¬ (false = true) by decide)] at H; exact H
              clear H; have H := H1; clear H1; by_cases c44 : t209 = 0
              · rw [if_pos c44] at H
                have c44b0 : (t209 == 0) = true := beq_iff_eq.mpr c44; have c44b1 : (t209 != 0) = false := bne_eq_false_iff_eq.mpr c44; clear c44; have H' := Aside0.mk H; clear H; go_wp2; (try simp only [← hji36])
                (try simp only [← hji34])
                go_roundg kj29
                case measure => have := HK1.out; have := HJ29.out; omega
                case rel => exact ⟨(t206), (wrap64 (x10_1 - 1)), (by exact pz3), (by first | exact H' | ((try rw [hji36]); (try rw [hji34]); exact H')), ⟨by have := HK1.out; have := HJ29.out; omega⟩, ⟨by exact pz9⟩, ⟨by exact phCx7_7⟩, ⟨by exact pz1⟩⟩
              rw [if_neg c44] at H; have c44b0 : (t209 == 0) = false := beq_eq_false_iff_ne.mpr c44; have c44b1 : (t209 != 0) = true := bne_iff_ne.mpr c44; simp only [Option.some.injEq, Prod.mk.injEq] at H; obtain ⟨rfl, rfl⟩ := H; go_wp2; go_ret2; exact ⟨_, by exact pz2, Kd.V_nil _ _ _ _ _, by exact pz1⟩
        rw [if_neg c28] at H; have c28b0 : decide (0 ≤ x10_1) = false := decide_eq_false c28; clear c28; simp only [Option.some.injEq, Prod.mk.injEq] at H; obtain ⟨rfl, rfl⟩ := H; go_wp2; go_ret2; exact ⟨_, by exact pz2, by (with_reducible repeat (first | apply Kd.V_alloc | apply Kd.V_drewN | apply Kd.V_drew)); exact Kd.V_mono HO_9.out (fun _ hk => hk.1), by exact pz1⟩
  replace c5 := Bool.eq_false_iff.mpr c5; subst c5; have H1 : (some (([] : List Int), 2)) = some (r1, r2) := by rw [if_neg (show ¬ (false = true) by decide)] at H; exact H
  clear H; have H := H1; clear H1; simp only [Option.some.injEq, Prod.mk.injEq] at H; obtain ⟨rfl, rfl⟩ := H; go_enter Tryz.func104, Tryz.ntmps104; go_wp2_with (first | ((with_reducible refine gate_callee (f := 148) rfl ?_); refine goesL_ (some 14) rfl rfl Tryz.func148 (by kernel_rfl) rfl #[.slice A0 l0.length c0, .int .i64 4096] rfl (by exact pz4) ?_; (with_reducible refine (quot_small.calls k _ _ l0 4096 t194 false _ ?side1 ?side2 A3.out).mono ?_); (case side1 => repeat (first | exact HR0.out | (with_reducible refine Kd.C_alloc ?_ _) | (with_reducible refine Kd.C_drewN ?_ _) | (with_reducible refine Kd.C_drew ?_))); (case side2 => exact HC0.out); rintro e w45 ⟨v196, rfl, ho0, hb⟩; refine ⟨_, rfl, ?_⟩; have n0_ := Aside0.mk (Kd.R_lower (Kd.R_newM (M := fun k_ => (w.heap.size ≤ k_)) ho0 (below_size (by exact pz1)) (fun k_ h_ => h_)) (below_size (by exact pz1))); have n1_ := Aside0.mk (below_step (by exact pz1) hb); clear HB; have HO197 := n0_; have HB := n1_; clear n0_ n1_; (try clear hb); (try clear hb2); (try clear hk); (try clear hi); (try clear ho0); obtain ⟨Ao46, co46, eo46⟩ := Kd.R_slice HO197.out; subst eo46) | ((with_reducible refine gate_callee (f := 149) rfl ?_); refine goesL_ (some 18) rfl rfl Tryz.func149 (by kernel_rfl) rfl #[.slice Ao46 t194.length co46] rfl (by exact pz4) ?_; (with_reducible refine (nat_BitLen.calls k _ _ t194 t198 _ ?side1 ?side2 A4.out).mono ?_); (case side1 => repeat (first | exact (Kd.R_reads' HO197.out).2.2 | (with_reducible refine Kd.C_alloc ?_ _) | (with_reducible refine Kd.C_drewN ?_ _) | (with_reducible refine Kd.C_drew ?_))); (case side2 => exact (Kd.R_reads' HO197.out).2.1); rintro e w' ⟨rfl, ⟨nd, rfl⟩⟩; refine ⟨_, rfl, ?_⟩)); go_ret2; exact ⟨_, by exact pz2, Kd.V_nil _ _ _ _ _, by exact pz1⟩

/-! ### quot_Pow5: function 62 -/
def quot_Pow5.f (k : Nat) (a0 : Int) : Option (List Int × Int) := (quot_Pow.f k (([5] : List Int)) a0).bind fun bt217 => (some (bt217.1, bt217.2))
theorem quot_Pow5.mono : ∀ a0 k, LeO (quot_Pow5.f k a0) (quot_Pow5.f (k + 1) a0) := by
  intro a0 k; unfold quot_Pow5.f; repeat' first
      | (with_reducible exact quot_Pow.mono _ _ _)
      | (with_reducible exact LeO.refl _)
      | (with_reducible exact LeO.none _)
      | (with_reducible refine LeO.ite ?_ ?_)
      | (with_reducible refine LeO.bind ?_ (fun _ => ?_))
      | exact quot_Pow.mono _ _ _
      | exact LeO.none _
      | refine LeO.ite ?_ ?_
      | refine LeO.bind ?_ (fun _ => ?_)
set_option maxHeartbeats 8000000 in
set_option maxRecDepth 100000 in
theorem quot_Pow5.calls (k : Nat) (a0 : Int) (r1 : List Int) (r2 : Int) (w : World) (h : quot_Pow5.f k a0 = some (r1, r2)) (HG : Aside0 (GW w) := by exact pz5) :
    Calls Tryz.prog 62 #[.int .i64 a0] w fun e w' => ∃ v0_ : Value, e = .returned (.tuple #[v0_, .int .i64 r2]) ∧ Kd.V (Kd.int .u64) 24 w' w.heap.size (fun k_ => (w.heap.size ≤ k_)) v0_ r1 ∧ Below w.heap.size w w' := by
  have HB := Aside0.mk (Below.refl w.heap.size w); have H : ((quot_Pow.f k (([5] : List Int)) a0).bind fun bt217 => (some (bt217.1, bt217.2))) = some (r1, r2) := h; clear h; obtain ⟨y214, hy214⟩ : ∃ y_ : List Int, y_ = (([5] : List Int)) := ⟨_, rfl⟩; replace H : ((quot_Pow.f k y214 a0).bind fun bt217 => (some (bt217.1, bt217.2))) = some (r1, r2) := by first | (rw [hy214]; with_reducible exact H) | (have H2_ := (Option.bind_some _ _).symm.trans H; rw [hy214]; with_reducible exact H2_) | (have H2_ := (Option.bind_some _ _).symm.trans H; with_reducible exact H2_) | with_reducible exact H | (rw [hy214]; exact H) | exact H
  have Ny214 := Aside0.mk hy214; clear hy214; replace H := Option.bind_eq_some_iff.mp H; obtain ⟨⟨t217, t220⟩, A20, H⟩ := H; (try dsimp only at H); have A2 := Aside0.mk A20; clear A20; simp only [Option.some.injEq, Prod.mk.injEq] at H; obtain ⟨rfl, rfl⟩ := H; go_enter Tryz.func62, Tryz.ntmps62; go_wp2_with (first | ((with_reducible refine gate_dst (N := 4) rfl ?_); refine Kd.R_lit (Kd.int .u64) _ 24 ?hg (N := 4) ?hd (xs := ([5] : List Int)) (inner := [.int .u64 5]) (ok := fun _ => True) (okp := fun _ => True) ?hr ?hp (fun _ hk => hk) trivial (Below.refl _ _) (Nat.le_refl _) (by simp) ?_; (case hd => rfl); (case hg => rfl); (case hr => first | (go_simp; done) | (go_simp; rfl)); (case hp => exact (Reps.one (show Kd.M (Kd.int .u64) _ _ _ 5 [.int .u64 5] from rfl) (Reps.none _ _))); intro v215 w3 ho4 hb hg_ hnew_; clear hg_ hnew_; (first | rw [← Ny214.out] at ho4 | (simp only [Int.reduceToNat] at ho4; rw [← Ny214.out] at ho4)); have n0_ := Aside0.mk (Kd.R_lower (Kd.R_newM (M := fun k_ => (w.heap.size ≤ k_)) ho4 (below_size (by exact pz1)) (fun k_ h_ => h_)) (below_size (by exact pz1))); have n1_ := Aside0.mk (below_step (by exact pz1) hb); clear HB; have HO216 := n0_; have HB := n1_; clear n0_ n1_; clear hb ho4; obtain ⟨Ao5, co5, eo5⟩ := Kd.R_slice HO216.out; subst eo5) | ((with_reducible refine gate_callee (f := 104) rfl ?_); refine goesL_ (some 6) rfl rfl Tryz.func104 (by kernel_rfl) rfl #[.slice Ao5 y214.length co5, .int .i64 a0] rfl (by exact pz4) ?_; (with_reducible refine (quot_Pow.calls k _ _ y214 a0 t217 t220 _ ?side1 ?side2 A2.out).mono ?_); (case side1 => repeat (first | exact (Kd.R_reads' HO216.out).2.2 | (with_reducible refine Kd.C_alloc ?_ _) | (with_reducible refine Kd.C_drewN ?_ _) | (with_reducible refine Kd.C_drew ?_))); (case side2 => exact (Kd.R_reads' HO216.out).2.1); rintro e w6 ⟨v218, rfl, ho0, hb⟩; refine ⟨_, rfl, ?_⟩; have n0_ := Aside0.mk (Kd.R_below (by (with_reducible repeat (first | apply Kd.R_alloc | apply Kd.R_drewN | apply Kd.R_drew)); exact HO216.out) hb); have n1_ := Aside0.mk (Kd.V_lower (Kd.V_mono (ok' := fun k_ => (w.heap.size ≤ k_) ∧ some k_ ≠ (.slice Ao5 y214.length co5 : Value).ownBlock) ho0 (fun k_ hk_ => ⟨(Nat.le_trans (below_size (by exact pz1)) hk_), (Kd.fresh' (Kd.R_lt (by (with_reducible repeat (first | apply Kd.R_alloc | apply Kd.R_drewN | apply Kd.R_drew)); exact HO216.out)) k_ hk_)⟩)) (below_size (by exact pz1))); have n2_ := Aside0.mk (below_step (by exact pz1) hb); clear HO216; clear HB; have HO216 := n0_; have HO219 := n1_; have HB := n2_; clear n0_ n1_ n2_; (try clear hb); (try clear hb2); (try clear hk); (try clear hi); (try clear ho0))); go_ret2; exact ⟨_, by exact pz2, by (with_reducible repeat (first | apply Kd.V_alloc | apply Kd.V_drewN | apply Kd.V_drew)); exact Kd.V_mono HO219.out (fun _ hk => hk.1), by exact pz1⟩

/-! ### numeral_chunk: function 152 -/
def numeral_chunk.l0 : Nat → Int → Int → Int → Option (Int × Int)
  | 0, _, _, _ => none
  | k + 1, x4, x5, x6 => (bits_Mul64.f x5 x4).bind fun bt221 => (if bt221.1 = 0 then (numeral_chunk.l0 k x4 bt221.2 (wrap64 (x6 + 1))) else (some (x5, x6)))
def numeral_chunk.f (k : Nat) (a0 : Int) : Option (Int × Int) := numeral_chunk.l0 k (IntKind.u64.wrap (a0)) (IntKind.u64.wrap (a0)) 1
theorem numeral_chunk.mono_l : ∀ k, (∀ y0 y1 y2, LeO (numeral_chunk.l0 k y0 y1 y2) (numeral_chunk.l0 (k + 1) y0 y1 y2))
  | 0 => fun _ _ _ r h => by simp [numeral_chunk.l0] at h
  | k + 1 => by
    have ih0 := numeral_chunk.mono_l k
    · intro y0 y1 y2
      unfold numeral_chunk.l0
      repeat' first
      | (with_reducible exact ih0 _ _ _)
      | (with_reducible exact LeO.refl _)
      | (with_reducible exact LeO.none _)
      | (with_reducible refine LeO.ite ?_ ?_)
      | (with_reducible refine LeO.bind ?_ (fun _ => ?_))
      | exact ih0 _ _ _
      | exact LeO.none _
      | refine LeO.ite ?_ ?_
      | refine LeO.bind ?_ (fun _ => ?_)
theorem numeral_chunk.mono : ∀ a0 k, LeO (numeral_chunk.f k a0) (numeral_chunk.f (k + 1) a0) := by
  intro a0 k; have ih0 := numeral_chunk.mono_l k; unfold numeral_chunk.f; repeat' first
      | (with_reducible exact ih0 _ _ _)
      | (with_reducible exact LeO.refl _)
      | (with_reducible exact LeO.none _)
      | (with_reducible refine LeO.ite ?_ ?_)
      | (with_reducible refine LeO.bind ?_ (fun _ => ?_))
      | exact ih0 _ _ _
      | exact LeO.none _
      | refine LeO.ite ?_ ?_
      | refine LeO.bind ?_ (fun _ => ?_)
set_option maxHeartbeats 8000000 in
set_option maxRecDepth 100000 in
theorem numeral_chunk.calls (k : Nat) (a0 : Int) (r1 : Int) (r2 : Int) (w : World) (h : numeral_chunk.f k a0 = some (r1, r2)) (HG : Aside0 (GW w) := by exact pz5) :
    Calls Tryz.prog 152 #[.int .i64 a0] w fun e w' => e = .returned (.tuple #[.int .u64 r1, .int .i64 r2]) ∧ Drawn0 w w' := by
  have H : (numeral_chunk.l0 k (IntKind.u64.wrap (a0)) (IntKind.u64.wrap (a0)) 1) = some (r1, r2) := h; clear h; have H' := Aside0.mk H; clear H; go_enter Tryz.func152, Tryz.ntmps152; go_wp2; go_loopg [5, 6] k (fun kq v5 v6 w' => ∃ (x5_1 : Int) (x6_1 : Int), v5 = .int .u64 x5_1 ∧ v6 = .int .i64 x6_1 ∧ Aside0 (numeral_chunk.l0 kq (IntKind.u64.wrap (a0)) x5_1 x6_1 = some (r1, r2)) ∧ Aside0 (kq ≤ k) ∧ Drawn0 w w')
  case atStart => exact ⟨(IntKind.u64.wrap (a0)), (1), (by exact pz3), (by exact pz3), H', ⟨Nat.le_refl _⟩, by repeat (first | exact Drawn0.refl _ | apply Drawn0.step)⟩
  case round =>
    clear H'; (try clear c1); obtain ⟨x5_1, x6_1, rfl, rfl, HA, HK1, ⟨m1, rfl⟩⟩ := hrel; cases gk with
    | zero => exact absurd HA.out (by simp [numeral_chunk.l0])
    | succ k1 =>
      have H := HA.out; clear HA; simp only [numeral_chunk.l0] at H; replace H := Option.bind_eq_some_iff.mp H; obtain ⟨⟨t221, t222⟩, A20, H⟩ := H; (try dsimp only at H); have A2 := Aside0.mk A20; clear A20; by_cases c3 : t221 = 0
      · rw [if_pos c3] at H
        have c3b0 : (t221 == 0) = true := beq_iff_eq.mpr c3; have c3b1 : (t221 != 0) = false := bne_eq_false_iff_eq.mpr c3; clear c3; have H' := Aside0.mk H; clear H; go_wp2_with (first | ((with_reducible refine gate_callee (f := 101) rfl ?_); refine goesL_ (some 15) rfl rfl Tryz.func101 (by kernel_rfl) rfl #[.int .u64 x5_1, .int .u64 (IntKind.u64.wrap (a0))] rfl (by exact pz4) ?_; (with_reducible refine (bits_Mul64.calls x5_1 (IntKind.u64.wrap (a0)) t221 t222 _ A2.out).mono ?_); rintro e w' ⟨rfl, ⟨nd, rfl⟩⟩; refine ⟨_, rfl, ?_⟩)); go_roundg k1
        case measure => have := HK1.out; omega
        case rel => exact ⟨(t222), (wrap64 (x6_1 + 1)), (by exact pz3), (by exact pz3), H', ⟨by have := HK1.out; omega⟩, by repeat (first | exact Drawn0.refl _ | apply Drawn0.step)⟩
      rw [if_neg c3] at H; have c3b0 : (t221 == 0) = false := beq_eq_false_iff_ne.mpr c3; have c3b1 : (t221 != 0) = true := bne_iff_ne.mpr c3; simp only [Option.some.injEq, Prod.mk.injEq] at H; obtain ⟨rfl, rfl⟩ := H; go_wp2_with (first | ((with_reducible refine gate_callee (f := 101) rfl ?_); refine goesL_ (some 15) rfl rfl Tryz.func101 (by kernel_rfl) rfl #[.int .u64 x5_1, .int .u64 (IntKind.u64.wrap (a0))] rfl (by exact pz4) ?_; (with_reducible refine (bits_Mul64.calls x5_1 (IntKind.u64.wrap (a0)) t221 t222 _ A2.out).mono ?_); rintro e w' ⟨rfl, ⟨nd, rfl⟩⟩; refine ⟨_, rfl, ?_⟩)); go_ret2; exact ⟨by exact pz3, by repeat (first | exact Drawn0.refl _ | apply Drawn0.step)⟩

/-! ### bits_LeadingZeros64: function 191 -/
def bits_LeadingZeros64.f (a0 : Int) : Option Int := if 0 ≤ a0 then (if a0 ≤ 18446744073709551615 then some (64 - ((Lib.bitLen a0.toNat : Nat) : Int)) else none) else none
theorem bits_LeadingZeros64.calls (a0 : Int) (r : Int) (w : World) (h : bits_LeadingZeros64.f a0 = some r) :
    Calls Tryz.prog 191 #[.int .u64 a0] w fun e w' => e = .returned (.int .i64 r) ∧ Drawn0 w w' := by
  unfold bits_LeadingZeros64.f at h; split at h
  · rename_i h0
    split at h
    · rename_i h1
      cases h
      exact (Tryz.bits_LeadingZeros64 a0 w h0 h1).mono fun e w' hh => ⟨hh.1, ⟨0, hh.2⟩⟩
    cases h
  cases h

end Go.Proofs.YtgbjojokjekmhaaGreatDoor.PXC
