/- The machine's side of a law, printed by a program of this session out of the translation; conditions: none. -/
import Derived.Test.YtgbjojokjekmhaaGreatDoorPXCx0
import Derived.Test.YtgbjojokjekmhaaGreatDoorPXCx3
namespace Go.Proofs.YtgbjojokjekmhaaGreatDoor.PXC
open Go.Proofs.YtgbjojokjekmhaaGreatDoor
open Go.RowKit Go.Proofs.YtgbjojokjekmhaaGreatDoorW.PrintWords Go.Proofs.YtgbjojokjekmhaaGreatDoorW.PrintLast Go.Proofs.YtgbjojokjekmhaaGreatDoorW.PrintMore
attribute [local go_sem] max2_int min2_int max_two min_two max_three min_three max_four min_four   -- for this text's walks alone
set_option linter.unusedVariables false
set_option linter.unusedSimpArgs false

theorem phCx4_7 {P : Prop} (h : P := by (with_reducible repeat (first | apply Kd.R_alloc | apply Kd.R_drewN | apply Kd.R_drew)); exact HO_8.out) : P := h
/-! ### nat_cut: function 102 -/
def nat_cut.f (k : Nat) (l0 : List Int) : Option (List Int × Int) := (nat_size.f k l0).bind fun n => if n > 4096 then some ([], 2) else (if 0 ≤ n then (if n ≤ (l0.length : Int) then some (l0.take n.toNat, 0) else none) else none)
theorem nat_cut.mono : ∀ a0 k, LeO (nat_cut.f k a0) (nat_cut.f (k + 1) a0) := by
  intro a0 k; unfold nat_cut.f; exact LeO.bind (nat_size.mono _ _) (fun _ => LeO.refl _)
set_option maxHeartbeats 2000000 in
set_option maxRecDepth 100000 in
theorem nat_cut.calls (k : Nat) (P0_ : Nat → Prop) (A0 : Option Addr) (c0 : Nat) (l0 : List Int) (r1 : List Int) (r2 : Int) (w : World) (hs0 : Kd.V (Kd.int .u64) 24 w w.heap.size (fun k_ => P0_ k_) (.slice A0 l0.length c0) l0) (h : nat_cut.f k l0 = some (r1, r2)) (HG : Aside0 (GW w) := by exact pz5) :
    Calls Tryz.prog 102 #[.slice A0 l0.length c0] w fun e w' => ∃ v0_ : Value, e = .returned (.tuple #[v0_, .int .i64 r2]) ∧ Kd.V (Kd.int .u64) 24 w' w.heap.size (fun k_ => (P0_ k_ ∨ w.heap.size ≤ k_)) v0_ r1 ∧ Below w.heap.size w w' := by
  obtain ⟨n, hn, h⟩ := Option.bind_eq_some_iff.mp h; have hr := Kd.V_reads' hs0; have hF := Kd.V_F hs0; have hc0 := hr.2.1; by_cases c1 : n > 4096
  · rw [if_pos c1] at h
    simp only [Option.some.injEq, Prod.mk.injEq] at h; obtain ⟨rfl, rfl⟩ := h; have c1b : decide (4096 < n) = true := decide_eq_true c1; go_enter Tryz.func102, Tryz.ntmps102; go_wp2_with (go_at_call 100; refine (nat_size.calls k A0 c0 l0 n _ hr.2.2 hr.2.1 hn HG).mono ?_; rintro e w' ⟨rfl, ⟨nd, rfl⟩⟩); go_ret2; exact ⟨_, rfl, Kd.V_nil _ _ _ _ _, by repeat (first | exact Below.refl _ _ | apply pw_below_drewN | apply below_drew)⟩
  rw [if_neg c1] at h; split at h
  · rename_i c2
    split at h
    · rename_i c3
      simp only [Option.some.injEq, Prod.mk.injEq] at h; obtain ⟨rfl, rfl⟩ := h; obtain ⟨m, rfl⟩ : ∃ m : Nat, n = (m : Int) := ⟨n.toNat, by omega⟩; have hm : m ≤ l0.length := by omega
      have c1b : decide (4096 < (m : Int)) = false := decide_eq_false c1; go_enter Tryz.func102, Tryz.ntmps102; go_wp2_with (go_at_call 100; refine (nat_size.calls k A0 c0 l0 m _ hr.2.2 hr.2.1 hn HG).mono ?_; rintro e w' ⟨rfl, ⟨nd, rfl⟩⟩); go_ret2; rw [Int.toNat_natCast]; have hl : (l0.take m).length = m := List.length_take_of_le hm; refine ⟨_, rfl, ⟨A0, m, by rw [hl]; rfl, by omega, ?_⟩, by repeat (first | exact Below.refl _ _ | apply pw_below_drewN | apply below_drew)⟩; exact Kd.F_mono (Kd.F_drewN (Kd.F_take hF hm) nd) (fun k hk => .inl hk)
    cases h
  cases h

/-! ### nat_Shl: function 59 -/
def nat_Shl.l0 : Nat → Int → Int → List Int → List Int → Int → Int → Option (List Int × Int)
  | 0, _, _, _, _, _, _ => none
  | k + 1, x6, x7, x8, x37, x38, x39 => if x39 < x38 then (if 0 ≤ x39 then (if x39 < (x37.length : Int) then (if 0 ≤ x7 then ((bits_Mul64.f (rd x37 x39) (shl .u64 1 x7)).bind fun bt136 => (if 0 ≤ (wrap64 (x6 + x39)) then (if (wrap64 (x6 + x39)) < (x8.length : Int) then (if 0 ≤ (wrap64 ((wrap64 (x6 + x39)) + 1)) then (if (wrap64 ((wrap64 (x6 + x39)) + 1)) < (x8.length : Int) then (nat_Shl.l0 k x6 x7 ((x8.set ((wrap64 (x6 + x39)) : Int).toNat (Go.bits .or .u64 (rd x8 (wrap64 (x6 + x39))) bt136.2)).set ((wrap64 ((wrap64 (x6 + x39)) + 1)) : Int).toNat bt136.1) x37 x38 (wrap64 (x39 + 1))) else (none)) else (none)) else (none)) else (none))) else (none)) else (none)) else (none)) else ((nat_cut.f k x8).bind fun bt141 => (some (bt141.1, bt141.2)))
def nat_Shl.f (k : Nat) (l0 : List Int) (a1 : Int) : Option (List Int × Int) := (nat_big.f k l0).bind fun t129 => (if t129 = true then (some (([] : List Int), 2)) else (if a1 < 0 then (some (([] : List Int), 1)) else ((nat_size.f k l0).bind fun t130 => (if 0 ≤ t130 then (if t130 ≤ (l0.length : Int) then (if ((l0.take (t130 : Int).toNat).length : Int) = 0 then (some (([] : List Int), 0)) else (if a1 > 262144 then (some (([] : List Int), 2)) else (if 0 ≤ (wrap64 ((wrap64 ((wrap64 (Int.tdiv a1 64)) + ((l0.take (t130 : Int).toNat).length : Int))) + 1)) then (if (wrap64 ((wrap64 ((wrap64 (Int.tdiv a1 64)) + ((l0.take (t130 : Int).toNat).length : Int))) + 1) : Int).toNat ≤ 35184372088832 then (nat_Shl.l0 k (wrap64 (Int.tdiv a1 64)) (IntKind.u64.wrap (Int.tmod a1 64)) (List.replicate (wrap64 ((wrap64 ((wrap64 (Int.tdiv a1 64)) + ((l0.take (t130 : Int).toNat).length : Int))) + 1) : Int).toNat 0) (l0.take (t130 : Int).toNat) ((l0.take (t130 : Int).toNat).length : Int) 0) else (none)) else (none)))) else (none)) else (none)))))
theorem nat_Shl.mono_l : ∀ k, (∀ y0 y1 y2 y3 y4 y5, LeO (nat_Shl.l0 k y0 y1 y2 y3 y4 y5) (nat_Shl.l0 (k + 1) y0 y1 y2 y3 y4 y5))
  | 0 => fun _ _ _ _ _ _ r h => by simp [nat_Shl.l0] at h
  | k + 1 => by
    have ih0 := nat_Shl.mono_l k
    · intro y0 y1 y2 y3 y4 y5
      unfold nat_Shl.l0
      repeat' first
      | (with_reducible exact ih0 _ _ _ _ _ _)
      | (with_reducible exact nat_big.mono _ _)
      | (with_reducible exact nat_cut.mono _ _)
      | (with_reducible exact nat_size.mono _ _)
      | (with_reducible exact LeO.refl _)
      | (with_reducible exact LeO.none _)
      | (with_reducible refine LeO.ite ?_ ?_)
      | (with_reducible refine LeO.bind ?_ (fun _ => ?_))
      | exact ih0 _ _ _ _ _ _
      | exact nat_big.mono _ _
      | exact nat_cut.mono _ _
      | exact nat_size.mono _ _
      | exact LeO.none _
      | refine LeO.ite ?_ ?_
      | refine LeO.bind ?_ (fun _ => ?_)
theorem nat_Shl.mono : ∀ a0 a1 k, LeO (nat_Shl.f k a0 a1) (nat_Shl.f (k + 1) a0 a1) := by
  intro a0 a1 k; have ih0 := nat_Shl.mono_l k; unfold nat_Shl.f; repeat' first
      | (with_reducible exact ih0 _ _ _ _ _ _)
      | (with_reducible exact nat_big.mono _ _)
      | (with_reducible exact nat_cut.mono _ _)
      | (with_reducible exact nat_size.mono _ _)
      | (with_reducible exact LeO.refl _)
      | (with_reducible exact LeO.none _)
      | (with_reducible refine LeO.ite ?_ ?_)
      | (with_reducible refine LeO.bind ?_ (fun _ => ?_))
      | exact ih0 _ _ _ _ _ _
      | exact nat_big.mono _ _
      | exact nat_cut.mono _ _
      | exact nat_size.mono _ _
      | exact LeO.none _
      | refine LeO.ite ?_ ?_
      | refine LeO.bind ?_ (fun _ => ?_)
theorem nat_Shl.w1 {P : Prop} (h : P := by
  go_enter Tryz.func59, Tryz.ntmps59; go_wp2_with (first | ((with_reducible refine gate_callee (f := 99) rfl ?_); refine goesL_ (some 14) rfl rfl Tryz.func99 (by kernel_rfl) rfl #[.slice A0 l0.length c0] rfl (by exact pz4) ?_; (with_reducible refine (nat_big.calls k _ _ l0 true _ ?side1 ?side2 A3.out).mono ?_); (case side1 => repeat (first | exact HR0.out | (with_reducible refine Kd.C_alloc ?_ _) | (with_reducible refine Kd.C_drewN ?_ _) | (with_reducible refine Kd.C_drew ?_))); (case side2 => exact HC0.out); rintro e w' ⟨rfl, ⟨nd, rfl⟩⟩; refine ⟨_, rfl, ?_⟩) | ((with_reducible refine gate_callee (f := 99) rfl ?_); refine goesL_ (some 14) rfl rfl Tryz.func99 (by kernel_rfl) rfl #[.slice A0 l0.length c0] rfl (by exact pz4) ?_; (with_reducible refine (nat_big.calls k _ _ l0 false _ ?side1 ?side2 A3.out).mono ?_); (case side1 => repeat (first | exact HR0.out | (with_reducible refine Kd.C_alloc ?_ _) | (with_reducible refine Kd.C_drewN ?_ _) | (with_reducible refine Kd.C_drew ?_))); (case side2 => exact HC0.out); rintro e w' ⟨rfl, ⟨nd, rfl⟩⟩; refine ⟨_, rfl, ?_⟩) | ((with_reducible refine gate_callee (f := 100) rfl ?_); refine goesL_ (some 19) rfl rfl Tryz.func100 (by kernel_rfl) rfl #[.slice A0 l0.length c0] rfl (by exact pz4) ?_; (with_reducible refine (nat_size.calls k _ _ l0 t130 _ ?side1 ?side2 A6.out).mono ?_); (case side1 => repeat (first | exact HR0.out | (with_reducible refine Kd.C_alloc ?_ _) | (with_reducible refine Kd.C_drewN ?_ _) | (with_reducible refine Kd.C_drew ?_))); (case side2 => exact HC0.out); rintro e w' ⟨rfl, ⟨nd, rfl⟩⟩; refine ⟨_, rfl, ?_⟩; obtain ⟨i010, hi010, _, hsz10, _⟩ := info_parts info24; obtain ⟨hcut10, hA10, hC10⟩ := print_take_of (P := Tryz.prog) (Value.int .u64) 0 101 24 .i64 Tryz.underlying101 hi010 hsz10 A0 c0 l0 t130 (of_decide_eq_true (by exact pz8)) (of_decide_eq_true (by exact pz8)) HC0.out; rw [hL_t130] at hcut10 hA10 hC10; have HR131 := Aside0.mk (Kd.C_of_reads (h1 := fun _ => rfl) (hA10 _ (Kd.reads_of_C HR0.out))); have HC131 := Aside0.mk hC10; clear hA10 hC10 hi010 hsz10)); go_ret2; exact ⟨_, by first | rfl | (simp [errW_none, errW_some] <;> rfl) | (simp only [append_nothing]; done) | (simp only [append_nothing]; rfl) | (simp [*, errW_none, errW_some] <;> rfl), Kd.V_nil _ _ _ _ _, by exact pz1⟩) : P := h
set_option maxHeartbeats 8000000 in
set_option maxRecDepth 100000 in
theorem nat_Shl.calls (k : Nat) (A0 : Option Addr) (c0 : Nat) (l0 : List Int) (a1 : Int) (r1 : List Int) (r2 : Int) (w : World) (hr0 : Kd.C (Kd.int .u64) w A0 l0.length l0) (hc0 : l0.length ≤ c0) (h : nat_Shl.f k l0 a1 = some (r1, r2)) (HG : Aside0 (GW w) := by exact pz5) :
    Calls Tryz.prog 59 #[.slice A0 l0.length c0, .int .i64 a1] w fun e w' => ∃ v0_ : Value, e = .returned (.tuple #[v0_, .int .i64 r2]) ∧ Kd.V (Kd.int .u64) 24 w' w.heap.size (fun k_ => (w.heap.size ≤ k_)) v0_ r1 ∧ Below w.heap.size w w' := by
  have HR0 := Aside0.mk hr0; have HC0 := Aside0.mk hc0; clear hr0 hc0; have HB := Aside0.mk (Below.refl w.heap.size w); have H : ((nat_big.f k l0).bind fun t129 => (if t129 = true then (some (([] : List Int), 2)) else (if a1 < 0 then (some (([] : List Int), 1)) else ((nat_size.f k l0).bind fun t130 => (if 0 ≤ t130 then (if t130 ≤ (l0.length : Int) then (if ((l0.take (t130 : Int).toNat).length : Int) = 0 then (some (([] : List Int), 0)) else (if a1 > 262144 then (some (([] : List Int), 2)) else (if 0 ≤ (wrap64 ((wrap64 ((wrap64 (Int.tdiv a1 64)) + ((l0.take (t130 : Int).toNat).length : Int))) + 1)) then (if (wrap64 ((wrap64 ((wrap64 (Int.tdiv a1 64)) + ((l0.take (t130 : Int).toNat).length : Int))) + 1) : Int).toNat ≤ 35184372088832 then (nat_Shl.l0 k (wrap64 (Int.tdiv a1 64)) (IntKind.u64.wrap (Int.tmod a1 64)) (List.replicate (wrap64 ((wrap64 ((wrap64 (Int.tdiv a1 64)) + ((l0.take (t130 : Int).toNat).length : Int))) + 1) : Int).toNat 0) (l0.take (t130 : Int).toNat) ((l0.take (t130 : Int).toNat).length : Int) 0) else (none)) else (none)))) else (none)) else (none)))))) = some (r1, r2) := h; clear h; replace H := Option.bind_eq_some_iff.mp H; obtain ⟨t129, A30, H⟩ := H; (try dsimp only at H); have A3 := Aside0.mk A30; clear A30; by_cases c4 : t129 = true
  · subst c4
    have H1 : (some (([] : List Int), 2)) = some (r1, r2) := by rw [if_pos rfl] at H; exact H
    clear H; have H := H1; clear H1; simp only [Option.some.injEq, Prod.mk.injEq] at H; obtain ⟨rfl, rfl⟩ := H; exact nat_Shl.w1
  replace c4 := Bool.eq_false_iff.mpr c4; subst c4; have H1 : (if a1 < 0 then (some (([] : List Int), 1)) else ((nat_size.f k l0).bind fun t130 => (if 0 ≤ t130 then (if t130 ≤ (l0.length : Int) then (if ((l0.take (t130 : Int).toNat).length : Int) = 0 then (some (([] : List Int), 0)) else (if a1 > 262144 then (some (([] : List Int), 2)) else (if 0 ≤ (wrap64 ((wrap64 ((wrap64 (Int.tdiv a1 64)) + ((l0.take (t130 : Int).toNat).length : Int))) + 1)) then (if (wrap64 ((wrap64 ((wrap64 (Int.tdiv a1 64)) + ((l0.take (t130 : Int).toNat).length : Int))) + 1) : Int).toNat ≤ 35184372088832 then (nat_Shl.l0 k (wrap64 (Int.tdiv a1 64)) (IntKind.u64.wrap (Int.tmod a1 64)) (List.replicate (wrap64 ((wrap64 ((wrap64 (Int.tdiv a1 64)) + ((l0.take (t130 : Int).toNat).length : Int))) + 1) : Int).toNat 0) (l0.take (t130 : Int).toNat) ((l0.take (t130 : Int).toNat).length : Int) 0) else (none)) else (none)))) else (none)) else (none)))) = some (r1, r2) := by rw [if_neg (show ¬ (false = true) by decide)] at H; exact H
  clear H; have H := H1; clear H1; by_cases c5 : a1 < 0
  · rw [if_pos c5] at H
    have c5b0 : decide (a1 < 0) = true := decide_eq_true c5; clear c5; simp only [Option.some.injEq, Prod.mk.injEq] at H; obtain ⟨rfl, rfl⟩ := H; exact nat_Shl.w1
  rw [if_neg c5] at H; have c5b0 : decide (a1 < 0) = false := decide_eq_false c5; clear c5; replace H := Option.bind_eq_some_iff.mp H; obtain ⟨t130, A60, H⟩ := H; (try dsimp only at H); have A6 := Aside0.mk A60; clear A60; by_cases c7 : 0 ≤ t130
  · rw [if_pos c7] at H
    have c7b0 := eq_true c7; have c7b1 : decide (0 ≤ t130) = true := decide_eq_true c7; clear c7; by_cases c8 : t130 ≤ (l0.length : Int)
    · rw [if_pos c8] at H
      have c8b0 := eq_true c8; have c8b1 : decide (t130 ≤ (l0.length : Int)) = true := decide_eq_true c8; clear c8; obtain ⟨L_t130, hL_t130⟩ : ∃ L_, l0.take (t130 : Int).toNat = L_ := ⟨_, rfl⟩; rw [hL_t130] at H; by_cases c9 : (L_t130.length : Int) = 0
      · rw [if_pos c9] at H
        have c9b0 : ((L_t130.length : Int) == 0) = true := beq_iff_eq.mpr c9; have c9b1 : ((L_t130.length : Int) != 0) = false := bne_eq_false_iff_eq.mpr c9; clear c9; simp only [Option.some.injEq, Prod.mk.injEq] at H; obtain ⟨rfl, rfl⟩ := H; exact nat_Shl.w1
      rw [if_neg c9] at H; have c9b0 : ((L_t130.length : Int) == 0) = false := beq_eq_false_iff_ne.mpr c9; have c9b1 : ((L_t130.length : Int) != 0) = true := bne_iff_ne.mpr c9; have c9b2 : ¬ (L_t130 = []) := fun h_ => c9 (by rw [h_]; rfl)
      by_cases c11 : a1 > 262144
      · rw [if_pos c11] at H
        have c11b0 : decide (262144 < a1) = true := decide_eq_true c11; clear c11; simp only [Option.some.injEq, Prod.mk.injEq] at H; obtain ⟨rfl, rfl⟩ := H; go_enter Tryz.func59, Tryz.ntmps59; go_wp2_with (first | ((with_reducible refine gate_callee (f := 99) rfl ?_); refine goesL_ (some 14) rfl rfl Tryz.func99 (by kernel_rfl) rfl #[.slice A0 l0.length c0] rfl (by exact pz4) ?_; (with_reducible refine (nat_big.calls k _ _ l0 false _ ?side1 ?side2 A3.out).mono ?_); (case side1 => repeat (first | exact HR0.out | (with_reducible refine Kd.C_alloc ?_ _) | (with_reducible refine Kd.C_drewN ?_ _) | (with_reducible refine Kd.C_drew ?_))); (case side2 => exact HC0.out); rintro e w' ⟨rfl, ⟨nd, rfl⟩⟩; refine ⟨_, rfl, ?_⟩) | ((with_reducible refine gate_callee (f := 100) rfl ?_); refine goesL_ (some 19) rfl rfl Tryz.func100 (by kernel_rfl) rfl #[.slice A0 l0.length c0] rfl (by exact pz4) ?_; (with_reducible refine (nat_size.calls k _ _ l0 t130 _ ?side1 ?side2 A6.out).mono ?_); (case side1 => repeat (first | exact HR0.out | (with_reducible refine Kd.C_alloc ?_ _) | (with_reducible refine Kd.C_drewN ?_ _) | (with_reducible refine Kd.C_drew ?_))); (case side2 => exact HC0.out); rintro e w' ⟨rfl, ⟨nd, rfl⟩⟩; refine ⟨_, rfl, ?_⟩; obtain ⟨i012, hi012, _, hsz12, _⟩ := info_parts info24; obtain ⟨hcut12, hA12, hC12⟩ := print_take_of (P := Tryz.prog) (Value.int .u64) 0 101 24 .i64 Tryz.underlying101 hi012 hsz12 A0 c0 l0 t130 (of_decide_eq_true (by exact pz8)) (of_decide_eq_true (by exact pz8)) HC0.out; rw [hL_t130] at hcut12 hA12 hC12; have HR131 := Aside0.mk (Kd.C_of_reads (h1 := fun _ => rfl) (hA12 _ (Kd.reads_of_C HR0.out))); have HC131 := Aside0.mk hC12; clear hA12 hC12 hi012 hsz12)); go_ret2; exact ⟨_, by first | rfl | (simp [errW_none, errW_some] <;> rfl) | (simp only [append_nothing]; done) | (simp only [append_nothing]; rfl) | (simp [*, errW_none, errW_some] <;> rfl), Kd.V_nil _ _ _ _ _, by exact pz1⟩
      rw [if_neg c11] at H; have c11b0 : decide (262144 < a1) = false := decide_eq_false c11; clear c11; obtain ⟨ji13, hji13⟩ : ∃ j_ : Int, (wrap64 ((wrap64 ((wrap64 (Int.tdiv a1 64)) + (L_t130.length : Int))) + 1)) = j_ := ⟨_, rfl⟩; replace H : (if 0 ≤ (ji13) then (if (ji13 : Int).toNat ≤ 35184372088832 then (nat_Shl.l0 k (wrap64 (Int.tdiv a1 64)) (IntKind.u64.wrap (Int.tmod a1 64)) (List.replicate (ji13 : Int).toNat 0) L_t130 (L_t130.length : Int) 0) else (none)) else (none)) = some (r1, r2) := by first | (rw [hji13] at H; exact H) | (simp only [hji13] at H ⊢; exact H)
      (try rw [hji13] at A3)
      (try rw [hji13] at A6)
      have hji13w : (IntKind.i64.wrap ((wrap64 ((wrap64 (Int.tdiv a1 64)) + (L_t130.length : Int))) + 1)) = ji13 := (i64_w _).trans hji13; by_cases c14 : 0 ≤ (ji13)
      · rw [if_pos c14] at H
        have c14b0 := eq_true c14; have c14b1 : decide (0 ≤ (ji13)) = true := decide_eq_true c14; clear c14; by_cases c15 : (ji13 : Int).toNat ≤ 35184372088832
        · rw [if_pos c15] at H
          have c15b0 := eq_true c15; have c15b1 : decide ((ji13 : Int).toNat ≤ 35184372088832) = true := decide_eq_true c15; clear c15; obtain ⟨y132, hy132⟩ : ∃ y_ : List Int, y_ = (List.replicate (ji13 : Int).toNat 0) := ⟨_, rfl⟩; replace H : (nat_Shl.l0 k (wrap64 (Int.tdiv a1 64)) (IntKind.u64.wrap (Int.tmod a1 64)) y132 L_t130 (L_t130.length : Int) 0) = some (r1, r2) := by first | (rw [hy132]; with_reducible exact H) | (have H2_ := (Option.bind_some _ _).symm.trans H; rw [hy132]; with_reducible exact H2_) | (have H2_ := (Option.bind_some _ _).symm.trans H; with_reducible exact H2_) | with_reducible exact H | (rw [hy132]; exact H) | exact H
          have Ny132 := Aside0.mk hy132; clear hy132; have H' := Aside0.mk H; clear H; go_enter Tryz.func59, Tryz.ntmps59; go_wp2_with (first | ((with_reducible refine gate_callee (f := 99) rfl ?_); refine goesL_ (some 14) rfl rfl Tryz.func99 (by kernel_rfl) rfl #[.slice A0 l0.length c0] rfl (by exact pz4) ?_; (with_reducible refine (nat_big.calls k _ _ l0 false _ ?side1 ?side2 A3.out).mono ?_); (case side1 => repeat (first | exact HR0.out | (with_reducible refine Kd.C_alloc ?_ _) | (with_reducible refine Kd.C_drewN ?_ _) | (with_reducible refine Kd.C_drew ?_))); (case side2 => exact HC0.out); rintro e w' ⟨rfl, ⟨nd, rfl⟩⟩; refine ⟨_, rfl, ?_⟩) | ((with_reducible refine gate_callee (f := 100) rfl ?_); refine goesL_ (some 19) rfl rfl Tryz.func100 (by kernel_rfl) rfl #[.slice A0 l0.length c0] rfl (by exact pz4) ?_; (with_reducible refine (nat_size.calls k _ _ l0 t130 _ ?side1 ?side2 A6.out).mono ?_); (case side1 => repeat (first | exact HR0.out | (with_reducible refine Kd.C_alloc ?_ _) | (with_reducible refine Kd.C_drewN ?_ _) | (with_reducible refine Kd.C_drew ?_))); (case side2 => exact HC0.out); rintro e w' ⟨rfl, ⟨nd, rfl⟩⟩; refine ⟨_, rfl, ?_⟩; obtain ⟨i016, hi016, _, hsz16, _⟩ := info_parts info24; obtain ⟨hcut16, hA16, hC16⟩ := print_take_of (P := Tryz.prog) (Value.int .u64) 0 101 24 .i64 Tryz.underlying101 hi016 hsz16 A0 c0 l0 t130 (of_decide_eq_true (by exact pz8)) (of_decide_eq_true (by exact pz8)) HC0.out; rw [hL_t130] at hcut16 hA16 hC16; have HR131 := Aside0.mk (Kd.C_of_reads (h1 := fun _ => rfl) (hA16 _ (Kd.reads_of_C HR0.out))); have HC131 := Aside0.mk hC16; clear hA16 hC16 hi016 hsz16) | ((with_reducible refine gate_dst (N := 36) rfl ?_); refine Kd.R_make (Kd.int .u64) _ 24 rfl (N := 36) rfl 101 _ _ rfl ji13 rfl rfl Tryz.underlying101 (.int .u64 0) 8 info24 rfl (by decide) (by omega) 0 (ok := fun _ => True) (okp := fun _ => True) rfl (fun _ hk => hk) trivial (of_decide_eq_true (by exact pz8)) (Nat.le_trans (Nat.mul_le_mul_right _ (of_decide_eq_true (by exact pz8) : ji13.toNat ≤ 35184372088832)) (by omega)) (Below.refl _ _) (Nat.le_refl _) ?_; intro v133 w17 ho18 hb hg_ hnew_; clear hg_ hnew_; (first | rw [← Ny132.out] at ho18 | (simp only [Int.reduceToNat] at ho18; rw [← Ny132.out] at ho18)); have n0_ := Aside0.mk (Kd.R_lower (Kd.R_newM (M := fun k_ => (w.heap.size ≤ k_)) ho18 (below_size (by exact pz1)) (fun k_ h_ => h_)) (below_size (by exact pz1))); have n1_ := Aside0.mk (below_step (by exact pz1) hb); clear HB; have HO134 := n0_; have HB := n1_; clear n0_ n1_; clear hb ho18)); go_loopg [39] k (fun kq v39 w' => ∃ (x8_1 : List Int) (x39_1 : Int), v39 = .int .i64 x39_1 ∧ Aside0 (nat_Shl.l0 kq (wrap64 (Int.tdiv a1 64)) (IntKind.u64.wrap (Int.tmod a1 64)) x8_1 L_t130 (L_t130.length : Int) x39_1 = some (r1, r2)) ∧ Aside0 (kq ≤ k) ∧ Aside0 (Kd.R (Kd.int .u64) 24 w' w.heap.size (fun k_ => (w.heap.size ≤ k_)) v133 x8_1) ∧ Aside0 (Below w.heap.size w w'))
          case atStart => exact ⟨(y132), (0), (by exact pz3), H', ⟨Nat.le_refl _⟩, ⟨by (with_reducible repeat (first | apply Kd.R_alloc | apply Kd.R_drewN | apply Kd.R_drew)); exact Kd.R_mono HO134.out (fun _ hk => hk.1)⟩, ⟨by exact pz1⟩⟩
          case round =>
            clear H'; (try clear c1); (try clear p2); (try clear c4); (try clear c5); (try clear c5b0); (try clear p6); (try clear c7); (try clear c7b0); (try clear c7b1); (try clear c8); (try clear c8b0); (try clear c8b1); (try clear c9); (try clear c9b0); (try clear c9b1); (try clear c9b2); (try clear c10); (try clear c11); (try clear c11b0); (try clear c14); (try clear c14b0); (try clear c14b1); (try clear c15); (try clear c15b0); (try clear c15b1); obtain ⟨x8_1, x39_1, rfl, HA, HK1, HO_8, HB⟩ := hrel; cases gk with
            | zero => exact absurd HA.out (by simp [nat_Shl.l0])
            | succ k1 =>
              have H := HA.out; clear HA; simp only [nat_Shl.l0] at H; by_cases c19 : x39_1 < (L_t130.length : Int)
              · rw [if_pos c19] at H
                have c19b0 : decide (x39_1 < (L_t130.length : Int)) = true := decide_eq_true c19; clear c19; by_cases c20 : 0 ≤ x39_1
                · rw [if_pos c20] at H
                  have c20b0 : decide (0 ≤ x39_1) = true := decide_eq_true c20; clear c20; by_cases c21 : x39_1 < (L_t130.length : Int)
                  · rw [if_pos c21] at H
                    have c21b0 : decide (x39_1 < (L_t130.length : Int)) = true := decide_eq_true c21; clear c21; obtain ⟨ji22, hji22⟩ : ∃ j_ : Int, (IntKind.u64.wrap (Int.tmod a1 64)) = j_ := ⟨_, rfl⟩; replace H : (if 0 ≤ (ji22) then ((bits_Mul64.f (rd L_t130 x39_1) (shl .u64 1 (ji22))).bind fun bt136 => (if 0 ≤ (wrap64 ((wrap64 (Int.tdiv a1 64)) + x39_1)) then (if (wrap64 ((wrap64 (Int.tdiv a1 64)) + x39_1)) < (x8_1.length : Int) then (if 0 ≤ (wrap64 ((wrap64 ((wrap64 (Int.tdiv a1 64)) + x39_1)) + 1)) then (if (wrap64 ((wrap64 ((wrap64 (Int.tdiv a1 64)) + x39_1)) + 1)) < (x8_1.length : Int) then (nat_Shl.l0 k1 (wrap64 (Int.tdiv a1 64)) (ji22) ((x8_1.set ((wrap64 ((wrap64 (Int.tdiv a1 64)) + x39_1)) : Int).toNat (Go.bits .or .u64 (rd x8_1 (wrap64 ((wrap64 (Int.tdiv a1 64)) + x39_1))) bt136.2)).set ((wrap64 ((wrap64 ((wrap64 (Int.tdiv a1 64)) + x39_1)) + 1)) : Int).toNat bt136.1) L_t130 (L_t130.length : Int) (wrap64 (x39_1 + 1))) else (none)) else (none)) else (none)) else (none))) else (none)) = some (r1, r2) := by first | (rw [hji22] at H; exact H) | (simp only [hji22] at H ⊢; exact H)
                    by_cases c23 : 0 ≤ (ji22)
                    · rw [if_pos c23] at H
                      have c23b0 := eq_true c23; have c23b1 : decide (0 ≤ (ji22)) = true := decide_eq_true c23; clear c23; obtain ⟨ji24, hji24⟩ : ∃ j_ : Int, (shl .u64 1 (ji22)) = j_ := ⟨_, rfl⟩; replace H : ((bits_Mul64.f (rd L_t130 x39_1) (ji24)).bind fun bt136 => (if 0 ≤ (wrap64 ((wrap64 (Int.tdiv a1 64)) + x39_1)) then (if (wrap64 ((wrap64 (Int.tdiv a1 64)) + x39_1)) < (x8_1.length : Int) then (if 0 ≤ (wrap64 ((wrap64 ((wrap64 (Int.tdiv a1 64)) + x39_1)) + 1)) then (if (wrap64 ((wrap64 ((wrap64 (Int.tdiv a1 64)) + x39_1)) + 1)) < (x8_1.length : Int) then (nat_Shl.l0 k1 (wrap64 (Int.tdiv a1 64)) (ji22) ((x8_1.set ((wrap64 ((wrap64 (Int.tdiv a1 64)) + x39_1)) : Int).toNat (Go.bits .or .u64 (rd x8_1 (wrap64 ((wrap64 (Int.tdiv a1 64)) + x39_1))) bt136.2)).set ((wrap64 ((wrap64 ((wrap64 (Int.tdiv a1 64)) + x39_1)) + 1)) : Int).toNat bt136.1) L_t130 (L_t130.length : Int) (wrap64 (x39_1 + 1))) else (none)) else (none)) else (none)) else (none))) = some (r1, r2) := by first | (rw [hji24] at H; exact H) | (simp only [hji24] at H ⊢; exact H)
                      have hji24_ : (IntKind.u64.wrap (1 * 2 ^ min (ji22).toNat 64)) = ji24 := hji24; have hji24z : (ji22) ≤ 64 → (IntKind.u64.wrap (1 * 2 ^ (ji22).toNat)) = ji24 := shl_small hji24; have hji24u : (IntKind.u64.wrap (2 ^ min (ji22).toNat 64)) = ji24 := by have h_ := hji24_; rw [Int.one_mul] at h_; exact h_
                      have hji24v : (ji22) ≤ 64 → (IntKind.u64.wrap (2 ^ (ji22).toNat)) = ji24 := fun hle_ => by have h_ := hji24z hle_; rw [Int.one_mul] at h_; exact h_
                      replace H := Option.bind_eq_some_iff.mp H; obtain ⟨⟨t136, t137⟩, A250, H⟩ := H; (try dsimp only at H); have A25 := Aside0.mk A250; clear A250; obtain ⟨ji26, hji26⟩ : ∃ j_ : Int, (wrap64 ((wrap64 (Int.tdiv a1 64)) + x39_1)) = j_ := ⟨_, rfl⟩; replace H : (if 0 ≤ (ji26) then (if (ji26) < (x8_1.length : Int) then (if 0 ≤ (wrap64 ((ji26) + 1)) then (if (wrap64 ((ji26) + 1)) < (x8_1.length : Int) then (nat_Shl.l0 k1 (wrap64 (Int.tdiv a1 64)) (ji22) ((x8_1.set ((ji26) : Int).toNat (Go.bits .or .u64 (rd x8_1 (ji26)) t137)).set ((wrap64 ((ji26) + 1)) : Int).toNat t136) L_t130 (L_t130.length : Int) (wrap64 (x39_1 + 1))) else (none)) else (none)) else (none)) else (none)) = some (r1, r2) := by first | (rw [hji26] at H; exact H) | (simp only [hji26] at H ⊢; exact H)
                      (try rw [hji26] at A25)
                      have hji26w : (IntKind.i64.wrap ((wrap64 (Int.tdiv a1 64)) + x39_1)) = ji26 := (i64_w _).trans hji26; by_cases c27 : 0 ≤ (ji26)
                      · rw [if_pos c27] at H
                        have c27b0 : decide (0 ≤ (ji26)) = true := decide_eq_true c27; clear c27; by_cases c28 : (ji26) < (x8_1.length : Int)
                        · rw [if_pos c28] at H
                          have c28b0 : decide ((ji26) < (x8_1.length : Int)) = true := decide_eq_true c28; clear c28; obtain ⟨y139, hy139⟩ : ∃ y_ : List Int, y_ = (x8_1.set ((ji26) : Int).toNat (Go.bits .or .u64 (rd x8_1 (ji26)) t137)) := ⟨_, rfl⟩; replace H : (if 0 ≤ (wrap64 ((ji26) + 1)) then (if (wrap64 ((ji26) + 1)) < (x8_1.length : Int) then (nat_Shl.l0 k1 (wrap64 (Int.tdiv a1 64)) (ji22) (y139.set ((wrap64 ((ji26) + 1)) : Int).toNat t136) L_t130 (L_t130.length : Int) (wrap64 (x39_1 + 1))) else (none)) else (none)) = some (r1, r2) := by first | (rw [hy139]; with_reducible exact H) | (have H2_ := (Option.bind_some _ _).symm.trans H; rw [hy139]; with_reducible exact H2_) | (have H2_ := (Option.bind_some _ _).symm.trans H; with_reducible exact H2_) | with_reducible exact H | (rw [hy139]; exact H) | exact H
                          have Ny139 := Aside0.mk hy139; clear hy139; obtain ⟨ji30, hji30⟩ : ∃ j_ : Int, (wrap64 ((ji26) + 1)) = j_ := ⟨_, rfl⟩; replace H : (if 0 ≤ (ji30) then (if (ji30) < (x8_1.length : Int) then (nat_Shl.l0 k1 (wrap64 (Int.tdiv a1 64)) (ji22) (y139.set ((ji30) : Int).toNat t136) L_t130 (L_t130.length : Int) (wrap64 (x39_1 + 1))) else (none)) else (none)) = some (r1, r2) := by first | (rw [hji30] at H; exact H) | (simp only [hji30] at H ⊢; exact H)
                          (try rw [hji30] at A25)
                          have hji30w : (IntKind.i64.wrap ((ji26) + 1)) = ji30 := (i64_w _).trans hji30; by_cases c31 : 0 ≤ (ji30)
                          · rw [if_pos c31] at H
                            have c31b0 : decide (0 ≤ (ji30)) = true := decide_eq_true c31; clear c31; by_cases c32 : (ji30) < (x8_1.length : Int)
                            · rw [if_pos c32] at H
                              have c32b0 : decide ((ji30) < (x8_1.length : Int)) = true := decide_eq_true c32; clear c32; obtain ⟨y140, hy140⟩ : ∃ y_ : List Int, y_ = (y139.set ((ji30) : Int).toNat t136) := ⟨_, rfl⟩; replace H : (nat_Shl.l0 k1 (wrap64 (Int.tdiv a1 64)) (ji22) y140 L_t130 (L_t130.length : Int) (wrap64 (x39_1 + 1))) = some (r1, r2) := by first | (rw [hy140]; with_reducible exact H) | (have H2_ := (Option.bind_some _ _).symm.trans H; rw [hy140]; with_reducible exact H2_) | (have H2_ := (Option.bind_some _ _).symm.trans H; with_reducible exact H2_) | with_reducible exact H | (rw [hy140]; exact H) | exact H
                              have Ny140 := Aside0.mk hy140; clear hy140; have H' := Aside0.mk H; clear H; have p135 : 0 ≤ (x39_1 : Int) := of_decide_eq_true (by exact pz8); have q135 : x39_1 < (L_t130.length : Int) := of_decide_eq_true (by exact pz8); obtain ⟨ad135, e135, hx135_0⟩ := Kd.at_int HR131.out x39_1 p135 q135; cases e135
                              replace hx135_0 := (HB.out.cell (World.block_lt_of_cell? w _ hx135_0)).trans hx135_0; replace p135 := eq_true p135; replace q135 := eq_true q135; go_wp2_with (first | ((with_reducible refine gate_callee (f := 101) rfl ?_); refine goesL_ (some 48) rfl rfl Tryz.func101 (by kernel_rfl) rfl #[.int .u64 (rd L_t130 x39_1), .int .u64 ji24] rfl (by (try simp only [List.map_toArray, List.map_cons, List.map_nil]); first | done | (simp only [hji24]; rfl) | rfl | (simp only [List.length_drop, List.length_take]; rfl)) ?_; (with_reducible refine (bits_Mul64.calls (rd L_t130 x39_1) ji24 t136 t137 _ A25.out).mono ?_); rintro e w' ⟨rfl, ⟨nd, rfl⟩⟩; refine ⟨_, rfl, ?_⟩; (try (rw [drewN_self wr]; generalize hq_ : World.drewN wr _ = wr; have n0_ : Aside0 (Kd.R (Kd.int .u64) 24 wr w.heap.size (fun k_ => (w.heap.size ≤ k_)) v133 x8_1) := ⟨by rw [← hq_]; exact (by exact phCx4_7)⟩; have n1_ : Aside0 (Below w.heap.size w wr) := ⟨by rw [← hq_]; exact (by exact pz1)⟩; clear HO_8 HB hq_; have HO_8 := n0_; have HB := n1_; clear n0_ n1_)); obtain ⟨Ao34, co34, eo34⟩ := Kd.R_slice HO_8.out; subst eo34; have p138 : 0 ≤ ((ji26) : Int) := of_decide_eq_true (by exact pz8); have q138 : (ji26) < (x8_1.length : Int) := of_decide_eq_true (by exact pz8); obtain ⟨ad138, e138, hx138_0⟩ := Kd.at_int (Kd.R_reads' HO_8.out).2.2 (ji26) p138 q138; cases e138; replace p138 := eq_true p138; replace q138 := eq_true q138; have p29 : 0 ≤ ((ji26) : Int) := of_decide_eq_true (by exact pz8); have q29 : ((ji26) : Int) < ((x8_1.length : Int) : Int) := of_decide_eq_true (by exact pz8); obtain ⟨go29, co29, eo29, gb29, gl29, cl29, HG29⟩ := Kd.R_form HO_8.out (by omega); (first | cases eo29 | (injection eo29 with ea_ en_ ec_; (first | subst ea_ | (injection ea_ with ea_; subst ea_)); subst ec_; clear en_)); have GB29 := Aside0.mk gb29; have GG29 := Aside0.mk HG29; clear gb29 gl29 HG29; (first | simp only [add_plain] at hx138_0 | skip); obtain ⟨hx29_0, hf29_0⟩ := Kd.R_celln 0 HO_8.out ((ji26) : Int) p29 q29; replace p29 := eq_true p29; replace q29 := eq_true q29; obtain ⟨hy35_, hz35_⟩ := Kd.R_celln 0 HO_8.out ((ji26) : Int) (of_decide_eq_true (by exact pz8)) (of_decide_eq_true (by exact pz8)); have HP35 := Kd.R_putg HO_8.out ((ji26) : Int) (Go.bits .or .u64 (rd x8_1 (ji26)) t137)) | ((with_reducible refine gate_store (t := 24) (p := 59) rfl ?_); refine store_event (t := 24) (p := 59) (v := ?vo_w36) (w1 := (wr.setCell ⟨go29, ((ji26) : Int).toNat, none⟩ (.int .u64 (Go.bits .or .u64 (rd x8_1 (ji26)) t137)))) ?hg ?ho ?hn ?hr ?_; (case ho => rfl); (case hg => rfl); (case hn => rfl); (case hr => first | (go_simp; done) | (go_simp; rfl)); intro w36 hw; have hg : wr.grownBy w36 (some go29) := (by rw [hw]; exact HP35.2); have hp_ : Kd.R (Kd.int .u64) 24 w36 w.heap.size (fun k_ => (w.heap.size ≤ k_)) (.slice (some ⟨go29, 0, none⟩) x8_1.length co34) y139 := (by rw [hw, Ny139.out]; exact HP35.1); clear HP35; have n0_ := Aside0.mk (hp_); have n1_ := Aside0.mk ((by rw [hw]; exact below_set (HB.out) GB29.out : Below w.heap.size w w36)); clear HO_8; clear HB; have HO_8 := n0_; have HB := n1_; clear n0_ n1_; clear hg hw hp_; have p33 : 0 ≤ ((ji30) : Int) := of_decide_eq_true (by exact pz8); have q33 : ((ji30) : Int) < ((x8_1.length : Int) : Int) := of_decide_eq_true (by exact pz8); obtain ⟨hx33_0, hf33_0⟩ := Kd.R_celln 0 HO_8.out ((ji30) : Int) p33 q33; replace p33 := eq_true p33; replace q33 := eq_true q33; obtain ⟨hy37_, hz37_⟩ := Kd.R_celln 0 HO_8.out ((ji30) : Int) (of_decide_eq_true (by exact pz8)) (of_decide_eq_true (by exact pz8)); have HP37 := Kd.R_putg HO_8.out ((ji30) : Int) t136) | ((with_reducible refine gate_store (t := 24) (p := 66) rfl ?_); refine store_event (t := 24) (p := 66) (v := ?vo_w38) (w1 := (w36.setCell ⟨go29, ((ji30) : Int).toNat, none⟩ (.int .u64 t136))) ?hg ?ho ?hn ?hr ?_; (case ho => rfl); (case hg => rfl); (case hn => rfl); (case hr => first | (go_simp; done) | (go_simp; rfl)); intro w38 hw; have hg : w36.grownBy w38 (some go29) := (by rw [hw]; exact HP37.2); have hp_ : Kd.R (Kd.int .u64) 24 w38 w.heap.size (fun k_ => (w.heap.size ≤ k_)) (.slice (some ⟨go29, 0, none⟩) x8_1.length co34) y140 := (by rw [hw, Ny140.out]; exact HP37.1); clear HP37; have n0_ := Aside0.mk (hp_); have n1_ := Aside0.mk ((by rw [hw]; exact below_set (HB.out) GB29.out : Below w.heap.size w w38)); clear HO_8; clear HB; have HO_8 := n0_; have HB := n1_; clear n0_ n1_; clear hg hw hp_)); (try simp only [← hji30])
                              (try simp only [← hji26])
                              (try simp only [← hji24])
                              (try simp only [← hji22])
                              go_roundg k1
                              case measure => have := HK1.out; omega
                              case rel => exact ⟨(y140), (wrap64 (x39_1 + 1)), (by exact pz3), (by first | exact H' | ((try rw [hji30]); (try rw [hji26]); (try rw [hji24]); (try rw [hji22]); exact H')), ⟨by have := HK1.out; omega⟩, ⟨by exact phCx4_7⟩, ⟨by exact pz1⟩⟩
                            rw [if_neg c32] at H; exact absurd H (by simp)
                          rw [if_neg c31] at H; exact absurd H (by simp)
                        rw [if_neg c28] at H; exact absurd H (by simp)
                      rw [if_neg c27] at H; exact absurd H (by simp)
                    rw [if_neg c23] at H; exact absurd H (by simp)
                  rw [if_neg c21] at H; exact absurd H (by simp)
                rw [if_neg c20] at H; exact absurd H (by simp)
              rw [if_neg c19] at H; have c19b0 : decide (x39_1 < (L_t130.length : Int)) = false := decide_eq_false c19; clear c19; replace H := Option.bind_eq_some_iff.mp H; obtain ⟨⟨t141, t144⟩, A390, H⟩ := H; (try dsimp only at H); have A39 := Aside0.mk A390; clear A390; simp only [Option.some.injEq, Prod.mk.injEq] at H; obtain ⟨rfl, rfl⟩ := H; obtain ⟨Ao40, co40, eo40⟩ := Kd.R_slice HO_8.out; subst eo40; go_wp2_with (first | ((with_reducible refine gate_callee (f := 102) rfl ?_); refine goesL_ (some 69) rfl rfl Tryz.func102 (by kernel_rfl) rfl #[.slice Ao40 x8_1.length co40] rfl (by exact pz4) ?_; (with_reducible refine (nat_cut.calls k1 (fun k_ => some k_ = (.slice Ao40 x8_1.length co40 : Value).ownBlock) _ _ x8_1 t141 t144 _ ?side1 A39.out).mono ?_); (case side1 => exact Kd.R_V (Kd.R_tight rfl (HO_8.out))); rintro e w41 ⟨v142, rfl, ho0, hb⟩; refine ⟨_, rfl, ?_⟩; have n0_ := Aside0.mk (Kd.R_below (by exact phCx4_7) hb); have n1_ := Aside0.mk (Kd.V_lower (Kd.V_mono (ok' := fun k_ => (w.heap.size ≤ k_)) ho0 (fun k_ hk_ => Or.elim hk_ (fun hs_ => ((HO_8.out).1 k_ hs_.symm)) (fun hn_ => (Nat.le_trans (below_size (by exact pz1)) hn_)))) (below_size (by exact pz1))); have n2_ := Aside0.mk (below_step (by exact pz1) hb); clear HO_8; clear HB; have HO_8 := n0_; have HO143 := n1_; have HB := n2_; clear n0_ n1_ n2_; (try clear hb); (try clear hb2); (try clear hk); (try clear hi); (try clear ho0))); go_ret2; exact ⟨_, by first | rfl | (simp [errW_none, errW_some] <;> rfl) | (simp only [append_nothing]; done) | (simp only [append_nothing]; rfl) | (simp only [← hji13]; first | rfl | (simp [errW_none, errW_some] <;> rfl)) | (simp [*, errW_none, errW_some] <;> rfl), by (with_reducible repeat (first | apply Kd.V_alloc | apply Kd.V_drewN | apply Kd.V_drew)); exact HO143.out, by exact pz1⟩
        rw [if_neg c15] at H; exact absurd H (by simp)
      rw [if_neg c14] at H; exact absurd H (by simp)
    rw [if_neg c8] at H; exact absurd H (by simp)
  rw [if_neg c7] at H; exact absurd H (by simp)

/-! ### bits_TrailingZeros64: function 103 -/
def bits_TrailingZeros64.f (a0 : Int) : Option Int := if 0 ≤ a0 then (if a0 < 18446744073709551616 then some ((Lib.ctz 64 a0.toNat : Nat) : Int) else none) else none
theorem bits_TrailingZeros64.calls (a0 : Int) (r : Int) (w : World) (h : bits_TrailingZeros64.f a0 = some r) (HG : Aside0 (GW w) := by exact pz5) :
    Calls Tryz.prog 103 #[.int .u64 a0] w fun e w' => e = .returned (.int .i64 r) ∧ Drawn0 w w' := by
  unfold bits_TrailingZeros64.f at h; split at h
  · rename_i h0
    split at h
    · rename_i h1
      cases h
      have hc := Tryz.bits_TrailingZeros64 a0.toNat w (by omega) (fun _ => HG.out.2); have e : ((a0.toNat : Nat) : Int) = a0 := by omega
      rw [e] at hc; exact hc.mono fun e w' hh => ⟨hh.1, ⟨0, hh.2⟩⟩
    cases h
  cases h

/-! ### nat_Trail: function 60 -/
def nat_Trail.l0 : Nat → List Int → Int → Int → Option (Int)
  | 0, _, _, _ => none
  | k + 1, x5, x6, x7 => if x7 < x6 then (if 0 ≤ x7 then (if x7 < (x5.length : Int) then (if (rd x5 x7) = 0 then (nat_Trail.l0 k x5 x6 (wrap64 (x7 + 1))) else ((bits_TrailingZeros64.f (rd x5 x7)).bind fun t146 => (some (wrap64 ((wrap64 (64 * x7)) + t146))))) else (none)) else (none)) else (some 0)
def nat_Trail.f (k : Nat) (l0 : List Int) : Option (Int) := nat_Trail.l0 k l0 (l0.length : Int) 0
theorem nat_Trail.mono_l : ∀ k, (∀ y0 y1 y2, LeO (nat_Trail.l0 k y0 y1 y2) (nat_Trail.l0 (k + 1) y0 y1 y2))
  | 0 => fun _ _ _ r h => by simp [nat_Trail.l0] at h
  | k + 1 => by
    have ih0 := nat_Trail.mono_l k
    · intro y0 y1 y2
      unfold nat_Trail.l0
      repeat' first
      | (with_reducible exact ih0 _ _ _)
      | (with_reducible exact LeO.refl _)
      | (with_reducible exact LeO.none _)
      | (with_reducible refine LeO.ite ?_ ?_)
      | (with_reducible refine LeO.bind ?_ (fun _ => ?_))
      | exact ih0 _ _ _
      | exact LeO.none _
      | refine LeO.ite ?_ ?_
      | refine LeO.bind ?_ (fun _ => ?_)
theorem nat_Trail.mono : ∀ a0 k, LeO (nat_Trail.f k a0) (nat_Trail.f (k + 1) a0) := by
  intro a0 k; have ih0 := nat_Trail.mono_l k; unfold nat_Trail.f; repeat' first
      | (with_reducible exact ih0 _ _ _)
      | (with_reducible exact LeO.refl _)
      | (with_reducible exact LeO.none _)
      | (with_reducible refine LeO.ite ?_ ?_)
      | (with_reducible refine LeO.bind ?_ (fun _ => ?_))
      | exact ih0 _ _ _
      | exact LeO.none _
      | refine LeO.ite ?_ ?_
      | refine LeO.bind ?_ (fun _ => ?_)
set_option maxHeartbeats 8000000 in
set_option maxRecDepth 100000 in
theorem nat_Trail.calls (k : Nat) (A0 : Option Addr) (c0 : Nat) (l0 : List Int) (r : Int) (w : World) (hr0 : Kd.C (Kd.int .u64) w A0 l0.length l0) (hc0 : l0.length ≤ c0) (h : nat_Trail.f k l0 = some r) (HG : Aside0 (GW w) := by exact pz5) :
    Calls Tryz.prog 60 #[.slice A0 l0.length c0] w fun e w' => e = .returned (.int .i64 r) ∧ Drawn0 w w' := by
  have HR0 := Aside0.mk hr0; have HC0 := Aside0.mk hc0; clear hr0 hc0; have H : (nat_Trail.l0 k l0 (l0.length : Int) 0) = some r := h; clear h; have H' := Aside0.mk H; clear H; go_enter Tryz.func60, Tryz.ntmps60; go_wp2; go_loopg [7] k (fun kq v7 w' => ∃ (x7_1 : Int), v7 = .int .i64 x7_1 ∧ Aside0 (nat_Trail.l0 kq l0 (l0.length : Int) x7_1 = some r) ∧ Aside0 (kq ≤ k) ∧ Drawn0 w w')
  case atStart => exact ⟨(0), (by exact pz3), H', ⟨Nat.le_refl _⟩, by repeat (first | exact Drawn0.refl _ | apply Drawn0.step)⟩
  case round =>
    clear H'; obtain ⟨x7_1, rfl, HA, HK1, ⟨m1, rfl⟩⟩ := hrel; cases gk with
    | zero => exact absurd HA.out (by simp [nat_Trail.l0])
    | succ k1 =>
      have H := HA.out; clear HA; simp only [nat_Trail.l0] at H; by_cases c2 : x7_1 < (l0.length : Int)
      · rw [if_pos c2] at H
        have c2b0 : decide (x7_1 < (l0.length : Int)) = true := decide_eq_true c2; clear c2; by_cases c3 : 0 ≤ x7_1
        · rw [if_pos c3] at H
          have c3b0 : decide (0 ≤ x7_1) = true := decide_eq_true c3; clear c3; by_cases c4 : x7_1 < (l0.length : Int)
          · rw [if_pos c4] at H
            have c4b0 : decide (x7_1 < (l0.length : Int)) = true := decide_eq_true c4; clear c4; by_cases c5 : (rd l0 x7_1) = 0
            · rw [if_pos c5] at H
              have c5b0 : ((rd l0 x7_1) == 0) = true := beq_iff_eq.mpr c5; have c5b1 : ((rd l0 x7_1) != 0) = false := bne_eq_false_iff_eq.mpr c5; clear c5; have H' := Aside0.mk H; clear H; have p145 : 0 ≤ (x7_1 : Int) := of_decide_eq_true (by exact pz8); have q145 : x7_1 < (l0.length : Int) := of_decide_eq_true (by exact pz8); obtain ⟨ad145, e145, hx145_0⟩ := Kd.at_int HR0.out x7_1 p145 q145; cases e145
              replace p145 := eq_true p145; replace q145 := eq_true q145; go_wp2; go_roundg k1
              case measure => have := HK1.out; omega
              case rel => exact ⟨(wrap64 (x7_1 + 1)), (by exact pz3), H', ⟨by have := HK1.out; omega⟩, by repeat (first | exact Drawn0.refl _ | apply Drawn0.step)⟩
            rw [if_neg c5] at H; have c5b0 : ((rd l0 x7_1) == 0) = false := beq_eq_false_iff_ne.mpr c5; have c5b1 : ((rd l0 x7_1) != 0) = true := bne_iff_ne.mpr c5; replace H := Option.bind_eq_some_iff.mp H; obtain ⟨t146, A60, H⟩ := H; (try dsimp only at H); have A6 := Aside0.mk A60; clear A60; obtain rfl := Option.some.inj H; have p145 : 0 ≤ (x7_1 : Int) := of_decide_eq_true (by exact pz8); have q145 : x7_1 < (l0.length : Int) := of_decide_eq_true (by exact pz8); obtain ⟨ad145, e145, hx145_0⟩ := Kd.at_int HR0.out x7_1 p145 q145; cases e145
            replace p145 := eq_true p145; replace q145 := eq_true q145; go_wp2_with (first | ((with_reducible refine gate_callee (f := 103) rfl ?_); refine goesL_ (some 17) rfl rfl Tryz.func103 (by kernel_rfl) rfl #[.int .u64 (rd l0 x7_1)] rfl (by exact pz4) ?_; (with_reducible refine (bits_TrailingZeros64.calls (rd l0 x7_1) t146 _ A6.out).mono ?_); rintro e w' ⟨rfl, ⟨nd, rfl⟩⟩; refine ⟨_, rfl, ?_⟩)); go_ret; exact ⟨by exact pz3, by repeat (first | exact Drawn0.refl _ | apply Drawn0.step)⟩
          rw [if_neg c4] at H; exact absurd H (by simp)
        rw [if_neg c3] at H; exact absurd H (by simp)
      rw [if_neg c2] at H; have c2b0 : decide (x7_1 < (l0.length : Int)) = false := decide_eq_false c2; clear c2; obtain rfl := Option.some.inj H; go_wp2; go_ret; exact ⟨by exact pz3, by repeat (first | exact Drawn0.refl _ | apply Drawn0.step)⟩

end Go.Proofs.YtgbjojokjekmhaaGreatDoor.PXC
