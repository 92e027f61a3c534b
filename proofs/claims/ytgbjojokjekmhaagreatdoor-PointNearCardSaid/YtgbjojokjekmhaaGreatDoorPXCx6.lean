/- The machine's side of a law, printed by a program of this session out of the translation; conditions: none. -/
import Derived.Test.YtgbjojokjekmhaaGreatDoorPXCx0
import Derived.Test.YtgbjojokjekmhaaGreatDoorPXCx3
import Derived.Test.YtgbjojokjekmhaaGreatDoorPXCx4
import Derived.Test.YtgbjojokjekmhaaGreatDoorPXCx5
namespace Go.Proofs.YtgbjojokjekmhaaGreatDoor.PXC
open Go.Proofs.YtgbjojokjekmhaaGreatDoor
open Go.RowKit Go.Proofs.YtgbjojokjekmhaaGreatDoorW.PrintWords Go.Proofs.YtgbjojokjekmhaaGreatDoorW.PrintLast Go.Proofs.YtgbjojokjekmhaaGreatDoorW.PrintMore
attribute [local go_sem] max2_int min2_int max_two min_two max_three min_three max_four min_four   -- for this text's walks alone
set_option linter.unusedVariables false
set_option linter.unusedSimpArgs false

/-! ### nat_Mul: function 63 -/
mutual
def nat_Mul.j0 : Nat → List Int → List Int → Bool → Option (List Int × Int)
  | 0, _, _, _ => none
  | k + 1, x0, x1, x20 => if x20 = true then (some (([] : List Int), 2)) else ((nat_size.f k x0).bind fun t166 => (if 0 ≤ t166 then (if t166 ≤ (x0.length : Int) then ((nat_size.f k x1).bind fun t168 => (if 0 ≤ t168 then (if t168 ≤ (x1.length : Int) then (if ((x0.take (t166 : Int).toNat).length : Int) = 0 then (nat_Mul.j1 k (x0.take (t166 : Int).toNat) (x1.take (t168 : Int).toNat) true) else (nat_Mul.j1 k (x0.take (t166 : Int).toNat) (x1.take (t168 : Int).toNat) (((x1.take (t168 : Int).toNat).length : Int) == 0))) else (none)) else (none))) else (none)) else (none)))
def nat_Mul.j1 : Nat → List Int → List Int → Bool → Option (List Int × Int)
  | 0, _, _, _ => none
  | k + 1, x0, x1, x36 => if x36 = true then (some (([] : List Int), 0)) else (if (wrap64 ((wrap64 ((x0.length : Int) + (x1.length : Int))) - 1)) > 4096 then (some (([] : List Int), 2)) else (if 0 ≤ (wrap64 ((x0.length : Int) + (x1.length : Int))) then (if (wrap64 ((x0.length : Int) + (x1.length : Int)) : Int).toNat ≤ 35184372088832 then (nat_Mul.l0 k x1 (List.replicate (wrap64 ((x0.length : Int) + (x1.length : Int)) : Int).toNat 0) x0 (x0.length : Int) 0) else (none)) else (none)))
def nat_Mul.l0 : Nat → List Int → List Int → List Int → Int → Int → Option (List Int × Int)
  | 0, _, _, _, _, _ => none
  | k + 1, x1, x6, x50, x51, x52 => if x52 < x51 then (if 0 ≤ x52 then (if x52 < (x50.length : Int) then (nat_Mul.l1 k x1 x6 x52 (rd x50 x52) 0 x50 x51 x52 x1 (x1.length : Int) 0) else (none)) else (none)) else ((nat_cut.f k x6).bind fun bt173 => (some (bt173.1, bt173.2)))
def nat_Mul.l1 : Nat → List Int → List Int → Int → Int → Int → List Int → Int → Int → List Int → Int → Int → Option (List Int × Int)
  | 0, _, _, _, _, _, _, _, _, _, _, _ => none
  | k + 1, x1, x6, x7, x8, x9, x50, x51, x52, x57, x58, x59 => if x59 < x58 then (if 0 ≤ x59 then (if x59 < (x57.length : Int) then ((bits_Mul64.f x8 (rd x57 x59)).bind fun bt179 => (if 0 ≤ (wrap64 (x7 + x59)) then (if (wrap64 (x7 + x59)) < (x6.length : Int) then ((bits_Add64.f bt179.2 (rd x6 (wrap64 (x7 + x59))) 0).bind fun bt182 => ((bits_Add64.f bt182.1 x9 0).bind fun bt184 => (nat_Mul.l1 k x1 (x6.set ((wrap64 (x7 + x59)) : Int).toNat bt184.1) x7 x8 (IntKind.u64.wrap ((IntKind.u64.wrap (bt179.1 + bt182.2)) + bt184.2)) x50 x51 x52 x57 x58 (wrap64 (x59 + 1))))) else (none)) else (none))) else (none)) else (none)) else (if 0 ≤ (wrap64 (x7 + (x1.length : Int))) then (if (wrap64 (x7 + (x1.length : Int))) < (x6.length : Int) then (nat_Mul.l0 k x1 (x6.set ((wrap64 (x7 + (x1.length : Int))) : Int).toNat x9) x50 x51 (wrap64 (x52 + 1))) else (none)) else (none))
end
def nat_Mul.f (k : Nat) (l0 : List Int) (l1 : List Int) : Option (List Int × Int) := (nat_big.f k l0).bind fun t164 => (if t164 = true then (nat_Mul.j0 k l0 l1 true) else ((nat_big.f k l1).bind fun t165 => (nat_Mul.j0 k l0 l1 t165)))
theorem nat_Mul.mo {P : Prop} (h : P := by repeat' with_reducible first | apply ih0 | apply ih1 | apply ih2 | apply ih3 | apply nat_big.mono | apply nat_cut.mono | apply nat_size.mono | apply LeO.refl | apply LeO.none | refine LeO.ite ?_ ?_ | refine LeO.bind ?_ (fun _ => ?_)) : P := h
theorem nat_Mul.mono_l : ∀ k, (∀ y0 y1 y2, LeO (nat_Mul.j0 k y0 y1 y2) (nat_Mul.j0 (k + 1) y0 y1 y2)) ∧ (∀ y0 y1 y2, LeO (nat_Mul.j1 k y0 y1 y2) (nat_Mul.j1 (k + 1) y0 y1 y2)) ∧ (∀ y0 y1 y2 y3 y4, LeO (nat_Mul.l0 k y0 y1 y2 y3 y4) (nat_Mul.l0 (k + 1) y0 y1 y2 y3 y4)) ∧ (∀ y0 y1 y2 y3 y4 y5 y6 y7 y8 y9 y10, LeO (nat_Mul.l1 k y0 y1 y2 y3 y4 y5 y6 y7 y8 y9 y10) (nat_Mul.l1 (k + 1) y0 y1 y2 y3 y4 y5 y6 y7 y8 y9 y10))
  | 0 => ⟨fun _ _ _ r h => by simp [nat_Mul.j0] at h, fun _ _ _ r h => by simp [nat_Mul.j1] at h, fun _ _ _ _ _ r h => by simp [nat_Mul.l0] at h, fun _ _ _ _ _ _ _ _ _ _ _ r h => by simp [nat_Mul.l1] at h⟩
  | k + 1 => by
    obtain ⟨ih0, ih1, ih2, ih3⟩ := nat_Mul.mono_l k
    refine ⟨?_, ?_, ?_, ?_⟩
    · intro y0 y1 y2
      unfold nat_Mul.j0
      exact nat_Mul.mo
    · intro y0 y1 y2
      unfold nat_Mul.j1
      exact nat_Mul.mo
    · intro y0 y1 y2 y3 y4
      unfold nat_Mul.l0
      exact nat_Mul.mo
    · intro y0 y1 y2 y3 y4 y5 y6 y7 y8 y9 y10
      unfold nat_Mul.l1
      exact nat_Mul.mo
theorem nat_Mul.mono : ∀ a0 a1 k, LeO (nat_Mul.f k a0 a1) (nat_Mul.f (k + 1) a0 a1) := by
  intro a0 a1 k; obtain ⟨ih0, ih1, ih2, ih3⟩ := nat_Mul.mono_l k; unfold nat_Mul.f; exact nat_Mul.mo
theorem nat_Mul.w1 {P : Prop} (h : P := by
  go_wp2; (repeat (go_quiet (fail); try go_wp2)); go_ret2; exact ⟨_, by first | rfl | (simp [errW_none, errW_some] <;> rfl) | (simp only [append_nothing]; done) | (simp only [append_nothing]; rfl) | (simp [*, errW_none, errW_some] <;> rfl), Kd.V_nil _ _ _ _ _, by exact pz1⟩) : P := h
set_option maxHeartbeats 8000000 in
set_option maxRecDepth 100000 in
theorem nat_Mul.calls (k : Nat) (A0 : Option Addr) (c0 : Nat) (l0 : List Int) (A1 : Option Addr) (c1 : Nat) (l1 : List Int) (r1 : List Int) (r2 : Int) (w : World) (hr0 : Kd.C (Kd.int .u64) w A0 l0.length l0) (hc0 : l0.length ≤ c0) (hr1 : Kd.C (Kd.int .u64) w A1 l1.length l1) (hc1 : l1.length ≤ c1) (h : nat_Mul.f k l0 l1 = some (r1, r2)) (HG : Aside0 (GW w) := by exact pz5) :
    Calls Tryz.prog 63 #[.slice A0 l0.length c0, .slice A1 l1.length c1] w fun e w' => ∃ v0_ : Value, e = .returned (.tuple #[v0_, .int .i64 r2]) ∧ Kd.V (Kd.int .u64) 24 w' w.heap.size (fun k_ => (w.heap.size ≤ k_)) v0_ r1 ∧ Below w.heap.size w w' := by
  have HR0 := Aside0.mk hr0; have HC0 := Aside0.mk hc0; clear hr0 hc0; have HR1 := Aside0.mk hr1; have HC1 := Aside0.mk hc1; clear hr1 hc1; have HB := Aside0.mk (Below.refl w.heap.size w); have H := h; clear h; unfold nat_Mul.f at H; have HC3 := Aside0.mk H; clear H; go_enter Tryz.func63, Tryz.ntmps63; go_upto_region 1 with (fail)
  (repeat (go_quiet (fail); go_upto_region 1 with (fail))); go_cut [20] (fun v20 wc => ∃ (kq : Nat) (x20_2 : Bool), v20 = .bool x20_2 ∧ Aside0 (nat_Mul.j0 kq l0 l1 x20_2 = some (r1, r2)) ∧ Aside0 (kq ≤ k) ∧ Aside0 (Below w.heap.size w wc))
  case first =>
    have H := HC3.out; clear HC3; replace H := Option.bind_eq_some_iff.mp H; obtain ⟨t164, A40, H⟩ := H; (try dsimp only at H); have A4 := Aside0.mk A40; clear A40; by_cases c5 : t164 = true
    · subst c5
      rw [if_pos rfl] at H; have H' := Aside0.mk H; clear H; go_wp2_with (first | (go_at_call 99; (with_reducible refine (nat_big.calls k _ _ l0 true _ ?side1 ?side2 A4.out).mono ?_); (case side1 => repeat (first | exact (Kd.C_below HR0.out HB.out) | (with_reducible refine Kd.C_alloc ?_ _) | (with_reducible refine Kd.C_drewN ?_ _) | (with_reducible refine Kd.C_drew ?_))); (case side2 => exact HC0.out); rintro e w' ⟨rfl, ⟨nd, rfl⟩⟩; (try first | exact ⟨rfl, _, World.drewN_drewN _ _ _⟩ | exact ⟨rfl, _, Eq.trans (World.drewN_drewN _ _ _) (congrArg (World.drewN _) (Nat.add_assoc _ _ _))⟩))); (repeat (go_quiet (fail); try go_wp2_with (fail))); go_meet
      case rel => exact ⟨_, (true), (by exact pz3), H', ⟨by first | omega | exact Nat.le_refl _⟩, ⟨by exact pz1⟩⟩
    replace c5 := Bool.eq_false_iff.mpr c5; subst c5; rw [if_neg (show ¬ (false = true) by decide)] at H; replace H := Option.bind_eq_some_iff.mp H; obtain ⟨t165, A60, H⟩ := H; (try dsimp only at H); have A6 := Aside0.mk A60; clear A60; have H' := Aside0.mk H; clear H; go_wp2_with (first | (go_at_call 99; (with_reducible refine (nat_big.calls k _ _ l0 false _ ?side1 ?side2 A4.out).mono ?_); (case side1 => repeat (first | exact (Kd.C_below HR0.out HB.out) | (with_reducible refine Kd.C_alloc ?_ _) | (with_reducible refine Kd.C_drewN ?_ _) | (with_reducible refine Kd.C_drew ?_))); (case side2 => exact HC0.out); rintro e w' ⟨rfl, ⟨nd, rfl⟩⟩; (try first | exact ⟨rfl, _, World.drewN_drewN _ _ _⟩ | exact ⟨rfl, _, Eq.trans (World.drewN_drewN _ _ _) (congrArg (World.drewN _) (Nat.add_assoc _ _ _))⟩)) | (go_at_call 99; (with_reducible refine (nat_big.calls k _ _ l1 t165 _ ?side1 ?side2 A6.out).mono ?_); (case side1 => repeat (first | exact (Kd.C_below HR1.out (by exact pz1)) | (with_reducible refine Kd.C_alloc ?_ _) | (with_reducible refine Kd.C_drewN ?_ _) | (with_reducible refine Kd.C_drew ?_))); (case side2 => exact HC1.out); rintro e w' ⟨rfl, ⟨nd, rfl⟩⟩; (try first | exact ⟨rfl, _, World.drewN_drewN _ _ _⟩ | exact ⟨rfl, _, Eq.trans (World.drewN_drewN _ _ _) (congrArg (World.drewN _) (Nat.add_assoc _ _ _))⟩))); (repeat (go_quiet (fail); try go_wp2_with (fail))); go_meet
    case rel => exact ⟨_, (t165), (by exact pz3), H', ⟨by first | omega | exact Nat.le_refl _⟩, ⟨by exact pz1⟩⟩
  case rest =>
    clear HC3; (try clear c1); obtain ⟨kq, x20_2, rfl, HA, HJ2, HB⟩ := hcut; cases kq with
    | zero => exact absurd HA.out (by simp [nat_Mul.j0])
    | succ kj2 =>
      have H := HA.out; clear HA; simp only [nat_Mul.j0] at H; by_cases c7 : x20_2 = true
      · subst c7
        rw [if_pos rfl] at H; simp only [Option.some.injEq, Prod.mk.injEq] at H; obtain ⟨rfl, rfl⟩ := H; exact nat_Mul.w1
      replace c7 := Bool.eq_false_iff.mpr c7; subst c7; rw [if_neg (show ¬ (false = true) by decide)] at H; replace H := Option.bind_eq_some_iff.mp H; obtain ⟨t166, A80, H⟩ := H; (try dsimp only at H); have A8 := Aside0.mk A80; clear A80; by_cases c9 : 0 ≤ t166
      · rw [if_pos c9] at H
        have c9b0 := eq_true c9; have c9b1 := decide_eq_true c9; clear c9; by_cases c10 : t166 ≤ (l0.length : Int)
        · rw [if_pos c10] at H
          have c10b0 := eq_true c10; have c10b1 := decide_eq_true c10; clear c10; obtain ⟨L_t166, hL_t166⟩ : ∃ L_, l0.take (t166 : Int).toNat = L_ := ⟨_, rfl⟩; rw [hL_t166] at H; replace H := Option.bind_eq_some_iff.mp H; obtain ⟨t168, A110, H⟩ := H; (try dsimp only at H); have A11 := Aside0.mk A110; clear A110; by_cases c12 : 0 ≤ t168
          · rw [if_pos c12] at H
            have c12b0 := eq_true c12; have c12b1 := decide_eq_true c12; clear c12; by_cases c13 : t168 ≤ (l1.length : Int)
            · rw [if_pos c13] at H
              have c13b0 := eq_true c13; have c13b1 := decide_eq_true c13; clear c13; obtain ⟨L_t168, hL_t168⟩ : ∃ L_, l1.take (t168 : Int).toNat = L_ := ⟨_, rfl⟩; rw [hL_t168] at H; have HC14 := Aside0.mk H; clear H; go_upto_region 4 with (first | (go_at_call 100; (with_reducible refine (nat_size.calls kj2 _ _ l0 t166 _ ?side1 ?side2 A8.out).mono ?_); (case side1 => repeat (first | exact (Kd.C_below HR0.out HB.out) | (with_reducible refine Kd.C_alloc ?_ _) | (with_reducible refine Kd.C_drewN ?_ _) | (with_reducible refine Kd.C_drew ?_))); (case side2 => exact HC0.out); rintro e w' ⟨rfl, ⟨nd, rfl⟩⟩; (try first | exact ⟨rfl, _, World.drewN_drewN _ _ _⟩ | exact ⟨rfl, _, Eq.trans (World.drewN_drewN _ _ _) (congrArg (World.drewN _) (Nat.add_assoc _ _ _))⟩); obtain ⟨i015, hi015, _, hsz15, _⟩ := info_parts info24; obtain ⟨hcut15, hA15, hC15⟩ := print_take_of (P := Tryz.prog) (Value.int .u64) 0 101 24 .i64 Tryz.underlying101 hi015 hsz15 A0 c0 l0 t166 (of_decide_eq_true (by exact pz8)) (of_decide_eq_true (by exact pz8)) HC0.out; rw [hL_t166] at hcut15 hA15 hC15; have HR167 := Aside0.mk (Kd.C_of_reads (h1 := fun _ => rfl) (hA15 _ (Kd.reads_of_C HR0.out))); have HC167 := Aside0.mk hC15; clear hA15 hC15 hi015 hsz15) | (go_at_call 100; (with_reducible refine (nat_size.calls kj2 _ _ l1 t168 _ ?side1 ?side2 A11.out).mono ?_); (case side1 => repeat (first | exact (Kd.C_below HR1.out (by exact pz1)) | (with_reducible refine Kd.C_alloc ?_ _) | (with_reducible refine Kd.C_drewN ?_ _) | (with_reducible refine Kd.C_drew ?_))); (case side2 => exact HC1.out); rintro e w' ⟨rfl, ⟨nd, rfl⟩⟩; (try first | exact ⟨rfl, _, World.drewN_drewN _ _ _⟩ | exact ⟨rfl, _, Eq.trans (World.drewN_drewN _ _ _) (congrArg (World.drewN _) (Nat.add_assoc _ _ _))⟩); obtain ⟨i016, hi016, _, hsz16, _⟩ := info_parts info24; obtain ⟨hcut16, hA16, hC16⟩ := print_take_of (P := Tryz.prog) (Value.int .u64) 0 101 24 .i64 Tryz.underlying101 hi016 hsz16 A1 c1 l1 t168 (of_decide_eq_true (by exact pz8)) (of_decide_eq_true (by exact pz8)) HC1.out; rw [hL_t168] at hcut16 hA16 hC16; have HR169 := Aside0.mk (Kd.C_of_reads (h1 := fun _ => rfl) (hA16 _ (Kd.reads_of_C HR1.out))); have HC169 := Aside0.mk hC16; clear hA16 hC16 hi016 hsz16))
              (repeat (go_quiet (first | (go_at_call 100; (with_reducible refine (nat_size.calls kj2 _ _ l0 t166 _ ?side1 ?side2 A8.out).mono ?_); (case side1 => repeat (first | exact (Kd.C_below HR0.out HB.out) | (with_reducible refine Kd.C_alloc ?_ _) | (with_reducible refine Kd.C_drewN ?_ _) | (with_reducible refine Kd.C_drew ?_))); (case side2 => exact HC0.out); rintro e w' ⟨rfl, ⟨nd, rfl⟩⟩; (try first | exact ⟨rfl, _, World.drewN_drewN _ _ _⟩ | exact ⟨rfl, _, Eq.trans (World.drewN_drewN _ _ _) (congrArg (World.drewN _) (Nat.add_assoc _ _ _))⟩); obtain ⟨i015, hi015, _, hsz15, _⟩ := info_parts info24; obtain ⟨hcut15, hA15, hC15⟩ := print_take_of (P := Tryz.prog) (Value.int .u64) 0 101 24 .i64 Tryz.underlying101 hi015 hsz15 A0 c0 l0 t166 (of_decide_eq_true (by exact pz8)) (of_decide_eq_true (by exact pz8)) HC0.out; rw [hL_t166] at hcut15 hA15 hC15; have HR167 := Aside0.mk (Kd.C_of_reads (h1 := fun _ => rfl) (hA15 _ (Kd.reads_of_C HR0.out))); have HC167 := Aside0.mk hC15; clear hA15 hC15 hi015 hsz15) | (go_at_call 100; (with_reducible refine (nat_size.calls kj2 _ _ l1 t168 _ ?side1 ?side2 A11.out).mono ?_); (case side1 => repeat (first | exact (Kd.C_below HR1.out (by exact pz1)) | (with_reducible refine Kd.C_alloc ?_ _) | (with_reducible refine Kd.C_drewN ?_ _) | (with_reducible refine Kd.C_drew ?_))); (case side2 => exact HC1.out); rintro e w' ⟨rfl, ⟨nd, rfl⟩⟩; (try first | exact ⟨rfl, _, World.drewN_drewN _ _ _⟩ | exact ⟨rfl, _, Eq.trans (World.drewN_drewN _ _ _) (congrArg (World.drewN _) (Nat.add_assoc _ _ _))⟩); obtain ⟨i016, hi016, _, hsz16, _⟩ := info_parts info24; obtain ⟨hcut16, hA16, hC16⟩ := print_take_of (P := Tryz.prog) (Value.int .u64) 0 101 24 .i64 Tryz.underlying101 hi016 hsz16 A1 c1 l1 t168 (of_decide_eq_true (by exact pz8)) (of_decide_eq_true (by exact pz8)) HC1.out; rw [hL_t168] at hcut16 hA16 hC16; have HR169 := Aside0.mk (Kd.C_of_reads (h1 := fun _ => rfl) (hA16 _ (Kd.reads_of_C HR1.out))); have HC169 := Aside0.mk hC16; clear hA16 hC16 hi016 hsz16)); go_upto_region 4 with (first | (go_at_call 100; (with_reducible refine (nat_size.calls kj2 _ _ l0 t166 _ ?side1 ?side2 A8.out).mono ?_); (case side1 => repeat (first | exact (Kd.C_below HR0.out HB.out) | (with_reducible refine Kd.C_alloc ?_ _) | (with_reducible refine Kd.C_drewN ?_ _) | (with_reducible refine Kd.C_drew ?_))); (case side2 => exact HC0.out); rintro e w' ⟨rfl, ⟨nd, rfl⟩⟩; (try first | exact ⟨rfl, _, World.drewN_drewN _ _ _⟩ | exact ⟨rfl, _, Eq.trans (World.drewN_drewN _ _ _) (congrArg (World.drewN _) (Nat.add_assoc _ _ _))⟩); obtain ⟨i015, hi015, _, hsz15, _⟩ := info_parts info24; obtain ⟨hcut15, hA15, hC15⟩ := print_take_of (P := Tryz.prog) (Value.int .u64) 0 101 24 .i64 Tryz.underlying101 hi015 hsz15 A0 c0 l0 t166 (of_decide_eq_true (by exact pz8)) (of_decide_eq_true (by exact pz8)) HC0.out; rw [hL_t166] at hcut15 hA15 hC15; have HR167 := Aside0.mk (Kd.C_of_reads (h1 := fun _ => rfl) (hA15 _ (Kd.reads_of_C HR0.out))); have HC167 := Aside0.mk hC15; clear hA15 hC15 hi015 hsz15) | (go_at_call 100; (with_reducible refine (nat_size.calls kj2 _ _ l1 t168 _ ?side1 ?side2 A11.out).mono ?_); (case side1 => repeat (first | exact (Kd.C_below HR1.out (by exact pz1)) | (with_reducible refine Kd.C_alloc ?_ _) | (with_reducible refine Kd.C_drewN ?_ _) | (with_reducible refine Kd.C_drew ?_))); (case side2 => exact HC1.out); rintro e w' ⟨rfl, ⟨nd, rfl⟩⟩; (try first | exact ⟨rfl, _, World.drewN_drewN _ _ _⟩ | exact ⟨rfl, _, Eq.trans (World.drewN_drewN _ _ _) (congrArg (World.drewN _) (Nat.add_assoc _ _ _))⟩); obtain ⟨i016, hi016, _, hsz16, _⟩ := info_parts info24; obtain ⟨hcut16, hA16, hC16⟩ := print_take_of (P := Tryz.prog) (Value.int .u64) 0 101 24 .i64 Tryz.underlying101 hi016 hsz16 A1 c1 l1 t168 (of_decide_eq_true (by exact pz8)) (of_decide_eq_true (by exact pz8)) HC1.out; rw [hL_t168] at hcut16 hA16 hC16; have HR169 := Aside0.mk (Kd.C_of_reads (h1 := fun _ => rfl) (hA16 _ (Kd.reads_of_C HR1.out))); have HC169 := Aside0.mk hC16; clear hA16 hC16 hi016 hsz16)))); (try simp only [Act.put, List.setIfInBounds_toArray, List.set_cons_zero, List.set_cons_succ])
              go_cut [36] (fun v36 wc => ∃ (kq : Nat) (x36_13 : Bool), v36 = .bool x36_13 ∧ Aside0 (nat_Mul.j1 kq L_t166 L_t168 x36_13 = some (r1, r2)) ∧ Aside0 (kq ≤ kj2) ∧ Aside0 (Below w.heap.size w wc))
              case first =>
                have H := HC14.out; clear HC14; by_cases c17 : (L_t166.length : Int) = 0
                · rw [if_pos c17] at H
                  have c17b0 := beq_iff_eq.mpr c17; have c17b1 := bne_eq_false_iff_eq.mpr c17; clear c17; (first | rw [c17b0] | (simp only [i64_w, i32_w]; rw [c17b0]) | skip)
                  have H' := Aside0.mk H; clear H; go_wp2; (repeat (go_quiet (fail); try go_wp2)); go_meet
                  case rel => exact ⟨_, (true), (by exact pz3), H', ⟨by have := HJ2.out; first | omega | exact Nat.le_refl _⟩, ⟨by exact pz1⟩⟩
                rw [if_neg c17] at H; have c17b0 := beq_eq_false_iff_ne.mpr c17; have c17b1 := bne_iff_ne.mpr c17; have c17b2 : ¬ (L_t166 = []) := fun h_ => c17 (by rw [h_]; rfl)
                (first | rw [c17b0] | (simp only [i64_w, i32_w]; rw [c17b0]) | skip)
                have H' := Aside0.mk H; clear H; go_wp2; (repeat (go_quiet (fail); try go_wp2)); go_meet
                case rel => exact ⟨_, (((L_t168.length : Int) == 0)), (by exact pz3), H', ⟨by have := HJ2.out; first | omega | exact Nat.le_refl _⟩, ⟨by exact pz1⟩⟩
              case rest =>
                clear HC14; (try clear c1); (try clear c7); (try clear c9); (try clear c9b0); (try clear c9b1); (try clear c10); (try clear c10b0); (try clear c10b1); (try clear c12); (try clear c12b0); (try clear c12b1); (try clear c13); (try clear c13b0); (try clear c13b1); obtain ⟨kq, x36_13, rfl, HA, HJ13, HB⟩ := hcut; cases kq with
                | zero => exact absurd HA.out (by simp [nat_Mul.j1])
                | succ kj13 =>
                  have H := HA.out; clear HA; simp only [nat_Mul.j1] at H; by_cases c18 : x36_13 = true
                  · subst c18
                    rw [if_pos rfl] at H; simp only [Option.some.injEq, Prod.mk.injEq] at H; obtain ⟨rfl, rfl⟩ := H; exact nat_Mul.w1
                  replace c18 := Bool.eq_false_iff.mpr c18; subst c18; rw [if_neg (show ¬ (false = true) by decide)] at H; by_cases c19 : (wrap64 ((wrap64 ((L_t166.length : Int) + (L_t168.length : Int))) - 1)) > 4096
                  · rw [if_pos c19] at H
                    have c19b0 : decide (4096 < (wrap64 ((wrap64 ((L_t166.length : Int) + (L_t168.length : Int))) - 1))) = true := decide_eq_true c19; clear c19; simp only [Option.some.injEq, Prod.mk.injEq] at H; obtain ⟨rfl, rfl⟩ := H; exact nat_Mul.w1
                  rw [if_neg c19] at H; have c19b0 : decide (4096 < (wrap64 ((wrap64 ((L_t166.length : Int) + (L_t168.length : Int))) - 1))) = false := decide_eq_false c19; clear c19; obtain ⟨ji20, hji20⟩ : ∃ j_ : Int, (wrap64 ((L_t166.length : Int) + (L_t168.length : Int))) = j_ := ⟨_, rfl⟩; replace H : (if 0 ≤ (ji20) then (if (ji20 : Int).toNat ≤ 35184372088832 then (nat_Mul.l0 kj13 L_t168 (List.replicate (ji20 : Int).toNat 0) L_t166 (L_t166.length : Int) 0) else (none)) else (none)) = some (r1, r2) := by first | (rw [hji20] at H; exact H) | (simp only [hji20] at H ⊢; exact H)
                  (try rw [hji20] at c19b0)
                  have hji20w : (IntKind.i64.wrap ((L_t166.length : Int) + (L_t168.length : Int))) = ji20 := (i64_w _).trans hji20; by_cases c21 : 0 ≤ (ji20)
                  · rw [if_pos c21] at H
                    have c21b0 := eq_true c21; have c21b1 := decide_eq_true c21; clear c21; by_cases c22 : (ji20 : Int).toNat ≤ 35184372088832
                    · rw [if_pos c22] at H
                      have c22b0 := eq_true c22; have c22b1 := decide_eq_true c22; clear c22; obtain ⟨y170, hy170⟩ : ∃ y_ : List Int, y_ = (List.replicate (ji20 : Int).toNat 0) := ⟨_, rfl⟩; replace H : (nat_Mul.l0 kj13 L_t168 y170 L_t166 (L_t166.length : Int) 0) = some (r1, r2) := by first | (rw [hy170]; with_reducible exact H) | (have H2_ := (Option.bind_some _ _).symm.trans H; rw [hy170]; with_reducible exact H2_) | (have H2_ := (Option.bind_some _ _).symm.trans H; with_reducible exact H2_) | with_reducible exact H | (rw [hy170]; exact H) | exact H
                      have Ny170 := Aside0.mk hy170; clear hy170; have H' := Aside0.mk H; clear H; go_wp2_with (first | ((with_reducible refine gate_dst (N := 49) rfl ?_); (try (refine gate_guard (by rfl) ?_; dsimp only)); refine Kd.R_make (Kd.int .u64) _ 24 rfl (N := 49) rfl 101 _ _ rfl ji20 rfl rfl Tryz.underlying101 (.int .u64 0) 8 info24 rfl (by decide) (by omega) 0 (ok := fun _ => True) (okp := fun _ => True) rfl (fun _ hk => hk) trivial (of_decide_eq_true (by exact pz8)) (Nat.le_trans (Nat.mul_le_mul_right _ (of_decide_eq_true (by exact pz8) : ji20.toNat ≤ 35184372088832)) (by omega)) (Below.refl _ _) (Nat.le_refl _) ?_; intro v171 w23 ho24 hb hg_ hnew_; clear hg_ hnew_; (first | rw [← Ny170.out] at ho24 | (simp only [Int.reduceToNat] at ho24; rw [← Ny170.out] at ho24)); have n0_ := Aside0.mk (Kd.R_lower (Kd.R_newM (M := fun k_ => (w.heap.size ≤ k_)) ho24 (below_size (by exact pz1)) (fun k_ h_ => h_)) (below_size (by exact pz1))); have n1_ := Aside0.mk (below_step (by exact pz1) hb); clear HB; have HO172 := n0_; have HB := n1_; clear n0_ n1_; clear hb ho24)); (repeat (go_quiet (fail); try go_wp2_with (fail))); go_loopg [52] kj13 (fun kq v52 w' => ∃ (x6_3 : List Int) (x52_3 : Int), v52 = .int .i64 x52_3 ∧ Aside0 (nat_Mul.l0 kq L_t168 x6_3 L_t166 (L_t166.length : Int) x52_3 = some (r1, r2)) ∧ Aside0 (kq ≤ kj13) ∧ Aside0 (Kd.R (Kd.int .u64) 24 w' w.heap.size (fun k_ => (w.heap.size ≤ k_)) v171 x6_3) ∧ Aside0 (Below w.heap.size w w'))
                      case atStart => exact ⟨(y170), (0), (by exact pz3), H', ⟨Nat.le_refl _⟩, ⟨by (with_reducible repeat (first | apply Kd.R_alloc | apply Kd.R_drewN | apply Kd.R_drew)); exact Kd.R_mono HO172.out (fun _ hk => hk.1)⟩, ⟨by exact pz1⟩⟩
                      case round =>
                        clear H'; (try clear c1); (try clear c7); (try clear c9); (try clear c9b0); (try clear c9b1); (try clear c10); (try clear c10b0); (try clear c10b1); (try clear c12); (try clear c12b0); (try clear c12b1); (try clear c13); (try clear c13b0); (try clear c13b1); (try clear c18); (try clear c19); (try clear c19b0); (try clear c21); (try clear c21b0); (try clear c21b1); (try clear c22); (try clear c22b0); (try clear c22b1); obtain ⟨x6_3, x52_3, rfl, HA, HK3, HO_6, HB⟩ := hrel; cases gk with
                        | zero => exact absurd HA.out (by simp [nat_Mul.l0])
                        | succ k3 =>
                          have H := HA.out; clear HA; simp only [nat_Mul.l0] at H; by_cases c25 : x52_3 < (L_t166.length : Int)
                          · rw [if_pos c25] at H
                            have c25b0 := decide_eq_true c25; clear c25; by_cases c26 : 0 ≤ x52_3
                            · rw [if_pos c26] at H
                              have c26b0 := decide_eq_true c26; clear c26; by_cases c27 : x52_3 < (L_t166.length : Int)
                              · rw [if_pos c27] at H
                                have c27b0 := decide_eq_true c27; clear c27; have H' := Aside0.mk H; clear H; have p177 : 0 ≤ (x52_3 : Int) := of_decide_eq_true (by exact pz8); have q177 : x52_3 < (L_t166.length : Int) := of_decide_eq_true (by exact pz8); obtain ⟨ad177, e177, hx177_0⟩ := Kd.at_int HR167.out x52_3 p177 q177; cases e177
                                replace hx177_0 := (HB.out.cell (World.block_lt_of_cell? w _ hx177_0)).trans hx177_0; replace p177 := eq_true p177; replace q177 := eq_true q177; go_wp2; (repeat (go_quiet (fail); try go_wp2)); go_loopg [9, 59] k3 (fun kq v9 v59 w' => ∃ (x6_4 : List Int) (x9_4 : Int) (x59_4 : Int), v9 = .int .u64 x9_4 ∧ v59 = .int .i64 x59_4 ∧ Aside0 (nat_Mul.l1 kq L_t168 x6_4 x52_3 (rd L_t166 x52_3) x9_4 L_t166 (L_t166.length : Int) x52_3 L_t168 (L_t168.length : Int) x59_4 = some (r1, r2)) ∧ Aside0 (kq ≤ k3) ∧ Aside0 (Kd.R (Kd.int .u64) 24 w' w.heap.size (fun k_ => (w.heap.size ≤ k_)) v171 x6_4) ∧ Aside0 (Below w.heap.size w w'))
                                case atStart => exact ⟨(x6_3), (0), (0), (by exact pz3), (by exact pz3), H', ⟨Nat.le_refl _⟩, ⟨by exact pz9⟩, ⟨by exact pz1⟩⟩
                                case round =>
                                  clear H'; (try clear c1); (try clear c7); (try clear c9); (try clear c9b0); (try clear c9b1); (try clear c10); (try clear c10b0); (try clear c10b1); (try clear c12); (try clear c12b0); (try clear c12b1); (try clear c13); (try clear c13b0); (try clear c13b1); (try clear c18); (try clear c19); (try clear c19b0); (try clear c21); (try clear c21b0); (try clear c21b1); (try clear c22); (try clear c22b0); (try clear c22b1); (try clear c25); (try clear c25b0); (try clear c26); (try clear c26b0); (try clear c27); (try clear c27b0); (try clear hx177_0); (try clear p177); (try clear q177); obtain ⟨x6_4, x9_4, x59_4, rfl, rfl, HA, HK4, HO_6, HB⟩ := hrel; cases gk with
                                  | zero => exact absurd HA.out (by simp [nat_Mul.l1])
                                  | succ k4 =>
                                    have H := HA.out; clear HA; simp only [nat_Mul.l1] at H; by_cases c28 : x59_4 < (L_t168.length : Int)
                                    · rw [if_pos c28] at H
                                      have c28b0 := decide_eq_true c28; clear c28; by_cases c29 : 0 ≤ x59_4
                                      · rw [if_pos c29] at H
                                        have c29b0 := decide_eq_true c29; clear c29; by_cases c30 : x59_4 < (L_t168.length : Int)
                                        · rw [if_pos c30] at H
                                          have c30b0 := decide_eq_true c30; clear c30; replace H := Option.bind_eq_some_iff.mp H; obtain ⟨⟨t179, t180⟩, A310, H⟩ := H; (try dsimp only at H); have A31 := Aside0.mk A310; clear A310; obtain ⟨ji32, hji32⟩ : ∃ j_ : Int, (wrap64 (x52_3 + x59_4)) = j_ := ⟨_, rfl⟩; replace H : (if 0 ≤ (ji32) then (if (ji32) < (x6_4.length : Int) then ((bits_Add64.f t180 (rd x6_4 (ji32)) 0).bind fun bt182 => ((bits_Add64.f bt182.1 x9_4 0).bind fun bt184 => (nat_Mul.l1 k4 L_t168 (x6_4.set ((ji32) : Int).toNat bt184.1) x52_3 (rd L_t166 x52_3) (IntKind.u64.wrap ((IntKind.u64.wrap (t179 + bt182.2)) + bt184.2)) L_t166 (L_t166.length : Int) x52_3 L_t168 (L_t168.length : Int) (wrap64 (x59_4 + 1))))) else (none)) else (none)) = some (r1, r2) := by first | (rw [hji32] at H; exact H) | (simp only [hji32] at H ⊢; exact H)
                                          (try rw [hji32] at A31)
                                          have hji32w : (IntKind.i64.wrap (x52_3 + x59_4)) = ji32 := (i64_w _).trans hji32; by_cases c33 : 0 ≤ (ji32)
                                          · rw [if_pos c33] at H
                                            have c33b0 := decide_eq_true c33; clear c33; by_cases c34 : (ji32) < (x6_4.length : Int)
                                            · rw [if_pos c34] at H
                                              have c34b0 := decide_eq_true c34; clear c34; replace H := Option.bind_eq_some_iff.mp H; obtain ⟨⟨t182, t183⟩, A350, H⟩ := H; (try dsimp only at H); have A35 := Aside0.mk A350; clear A350; replace H := Option.bind_eq_some_iff.mp H; obtain ⟨⟨t184, t185⟩, A360, H⟩ := H; (try dsimp only at H); have A36 := Aside0.mk A360; clear A360; obtain ⟨y186, hy186⟩ : ∃ y_ : List Int, y_ = (x6_4.set ((ji32) : Int).toNat t184) := ⟨_, rfl⟩; replace H : (nat_Mul.l1 k4 L_t168 y186 x52_3 (rd L_t166 x52_3) (IntKind.u64.wrap ((IntKind.u64.wrap (t179 + t183)) + t185)) L_t166 (L_t166.length : Int) x52_3 L_t168 (L_t168.length : Int) (wrap64 (x59_4 + 1))) = some (r1, r2) := by first | (rw [hy186]; with_reducible exact H) | (have H2_ := (Option.bind_some _ _).symm.trans H; rw [hy186]; with_reducible exact H2_) | (have H2_ := (Option.bind_some _ _).symm.trans H; with_reducible exact H2_) | with_reducible exact H | (rw [hy186]; exact H) | exact H
                                              have Ny186 := Aside0.mk hy186; clear hy186; have H' := Aside0.mk H; clear H; have p178 : 0 ≤ (x59_4 : Int) := of_decide_eq_true (by exact pz8); have q178 : x59_4 < (L_t168.length : Int) := of_decide_eq_true (by exact pz8); obtain ⟨ad178, e178, hx178_0⟩ := Kd.at_int HR169.out x59_4 p178 q178; cases e178
                                              replace hx178_0 := (HB.out.cell (World.block_lt_of_cell? w _ hx178_0)).trans hx178_0; replace p178 := eq_true p178; replace q178 := eq_true q178; go_wp2_with (first | (go_at_call 101; (with_reducible refine (bits_Mul64.calls (rd L_t166 x52_3) (rd L_t168 x59_4) t179 t180 _ A31.out).mono ?_); rintro e w' ⟨rfl, ⟨nd, rfl⟩⟩; (try first | exact ⟨rfl, _, World.drewN_drewN _ _ _⟩ | exact ⟨rfl, _, Eq.trans (World.drewN_drewN _ _ _) (congrArg (World.drewN _) (Nat.add_assoc _ _ _))⟩); obtain ⟨Ao38, co38, eo38⟩ := Kd.R_slice HO_6.out; subst eo38; have p181 : 0 ≤ ((ji32) : Int) := of_decide_eq_true (by exact pz8); have q181 : (ji32) < (x6_4.length : Int) := of_decide_eq_true (by exact pz8); obtain ⟨ad181, e181, hx181_0⟩ := Kd.at_int (Kd.R_reads' HO_6.out).2.2 (ji32) p181 q181; cases e181; replace p181 := eq_true p181; replace q181 := eq_true q181) | ((with_reducible refine goesU_ #[.int .u64 t180, .int .u64 (rd x6_4 (ji32)), .int .u64 0] ?hargs (bits_Add64.calls t180 (rd x6_4 (ji32)) 0 t182 t183 _ A35.out) ?_); (case hargs => first | (with_reducible rfl) | (simp only [hji20]; done) | (simp only [hji32]; done) | (simp only [hji41]; done) | (simp only [hji20, hji32]; done) | (simp only [hji20, hji41]; done) | (simp only [hji32, hji41]; done))) | ((with_reducible refine goesU_ #[.int .u64 t182, .int .u64 x9_4, .int .u64 0] ?hargs (bits_Add64.calls t182 x9_4 0 t184 t185 _ A36.out) ?_); (case hargs => first | (with_reducible rfl) | (simp only [hji20]; done) | (simp only [hji32]; done) | (simp only [hji41]; done) | (simp only [hji20, hji32]; done) | (simp only [hji20, hji41]; done) | (simp only [hji32, hji41]; done)); have p37 : 0 ≤ ((ji32) : Int) := of_decide_eq_true (by exact pz8); have q37 : ((ji32) : Int) < ((x6_4.length : Int) : Int) := of_decide_eq_true (by exact pz8); obtain ⟨go37, co37, eo37, gb37, gl37, cl37, HG37⟩ := Kd.R_form HO_6.out (by omega); (first | cases eo37 | (injection eo37 with ea_ en_ ec_; (first | subst ea_ | (injection ea_ with ea_; subst ea_)); subst ec_; clear en_)); have GB37 := Aside0.mk gb37; have GG37 := Aside0.mk HG37; clear gb37 gl37 HG37; (first | simp only [add_plain] at hx181_0 | skip); obtain ⟨hx37_0, hf37_0⟩ := Kd.R_celln 0 HO_6.out ((ji32) : Int) p37 q37; replace p37 := eq_true p37; replace q37 := eq_true q37; obtain ⟨hy39_, hz39_⟩ := Kd.R_celln 0 HO_6.out ((ji32) : Int) (of_decide_eq_true (by exact pz8)) (of_decide_eq_true (by exact pz8)); have HP39 := Kd.R_putg HO_6.out ((ji32) : Int) t184) | ((with_reducible refine gate_store (t := 24) (p := 98) rfl ?_); (try (rw [drewN_self wr]; generalize hq_ : World.drewN wr _ = wr; have n0_ := Aside0.mk (Kd.R_at hq_ HO_6.out); have n1_ := Aside0.mk (below_at hq_ HB.out); clear hq_ HO_6 HB; have HO_6 := n0_; have HB := n1_; clear n0_ n1_; (try (obtain ⟨hy39_, hz39_⟩ := Kd.R_celln 0 HO_6.out ((ji32) : Int) (of_decide_eq_true (by exact pz8)) (of_decide_eq_true (by exact pz8)))); (try (have HP39 := Kd.R_putg HO_6.out ((ji32) : Int) t184)))); refine store_event (t := 24) (p := 98) (v := ?vo_w40) (w1 := (wr.setCell ⟨go37, ((ji32) : Int).toNat, none⟩ (.int .u64 t184))) ?hg ?ho ?hn ?hr ?_; (case ho => rfl); (case hg => rfl); (case hn => rfl); (case hr => first | (go_simp; done) | (go_simp; rfl)); intro w40 hw; have hg : wr.grownBy w40 (some go37) := (by rw [hw]; exact HP39.2); have hp_ : Kd.R (Kd.int .u64) 24 w40 w.heap.size (fun k_ => (w.heap.size ≤ k_)) (.slice (some ⟨go37, 0, none⟩) x6_4.length co38) y186 := (by rw [hw, Ny186.out]; exact HP39.1); clear HP39; have n0_ := Aside0.mk (hp_); have n1_ := Aside0.mk ((by rw [hw]; exact below_set (HB.out) GB37.out : Below w.heap.size w w40)); clear HO_6; clear HB; have HO_6 := n0_; have HB := n1_; clear n0_ n1_; clear hg hw hp_)); (repeat (go_quiet (fail); try go_wp2_with (fail))); (try simp only [← hji32])
                                              go_roundg k4
                                              case measure => have := HJ2.out; have := HJ13.out; have := HK3.out; have := HK4.out; omega
                                              case rel => exact ⟨(y186), (IntKind.u64.wrap ((IntKind.u64.wrap (t179 + t183)) + t185)), (wrap64 (x59_4 + 1)), (by exact pz3), (by exact pz3), (by first | exact H' | ((try rw [hji32]); exact H')), ⟨by have := HJ2.out; have := HJ13.out; have := HK3.out; have := HK4.out; omega⟩, ⟨by exact pz9⟩, ⟨by exact pz1⟩⟩
                                            rw [if_neg c34] at H; exact absurd H (by simp)
                                          rw [if_neg c33] at H; exact absurd H (by simp)
                                        rw [if_neg c30] at H; exact absurd H (by simp)
                                      rw [if_neg c29] at H; exact absurd H (by simp)
                                    rw [if_neg c28] at H; have c28b0 := decide_eq_false c28; clear c28; obtain ⟨ji41, hji41⟩ : ∃ j_ : Int, (wrap64 (x52_3 + (L_t168.length : Int))) = j_ := ⟨_, rfl⟩; replace H : (if 0 ≤ (ji41) then (if (ji41) < (x6_4.length : Int) then (nat_Mul.l0 k4 L_t168 (x6_4.set ((ji41) : Int).toNat x9_4) L_t166 (L_t166.length : Int) (wrap64 (x52_3 + 1))) else (none)) else (none)) = some (r1, r2) := by first | (rw [hji41] at H; exact H) | (simp only [hji41] at H ⊢; exact H)
                                    have hji41w : (IntKind.i64.wrap (x52_3 + (L_t168.length : Int))) = ji41 := (i64_w _).trans hji41; by_cases c42 : 0 ≤ (ji41)
                                    · rw [if_pos c42] at H
                                      have c42b0 := decide_eq_true c42; clear c42; by_cases c43 : (ji41) < (x6_4.length : Int)
                                      · rw [if_pos c43] at H
                                        have c43b0 := decide_eq_true c43; clear c43; obtain ⟨y187, hy187⟩ : ∃ y_ : List Int, y_ = (x6_4.set ((ji41) : Int).toNat x9_4) := ⟨_, rfl⟩; replace H : (nat_Mul.l0 k4 L_t168 y187 L_t166 (L_t166.length : Int) (wrap64 (x52_3 + 1))) = some (r1, r2) := by first | (rw [hy187]; with_reducible exact H) | (have H2_ := (Option.bind_some _ _).symm.trans H; rw [hy187]; with_reducible exact H2_) | (have H2_ := (Option.bind_some _ _).symm.trans H; with_reducible exact H2_) | with_reducible exact H | (rw [hy187]; exact H) | exact H
                                        have Ny187 := Aside0.mk hy187; clear hy187; have H' := Aside0.mk H; clear H; have p44 : 0 ≤ ((ji41) : Int) := of_decide_eq_true (by exact pz8); have q44 : ((ji41) : Int) < ((x6_4.length : Int) : Int) := of_decide_eq_true (by exact pz8); obtain ⟨go44, co44, eo44, gb44, gl44, cl44, HG44⟩ := Kd.R_form HO_6.out (by omega); (first | cases eo44 | (injection eo44 with ea_ en_ ec_; (first | subst ea_ | (injection ea_ with ea_; subst ea_)); subst ec_; clear en_))
                                        have GB44 := Aside0.mk gb44; have GG44 := Aside0.mk HG44; clear gb44 gl44 HG44; obtain ⟨hx44_0, hf44_0⟩ := Kd.R_celln 0 HO_6.out ((ji41) : Int) p44 q44; replace p44 := eq_true p44; replace q44 := eq_true q44; have HP45 := Kd.R_putg HO_6.out ((ji41) : Int) x9_4; go_wp2_with (first | ((with_reducible refine gate_store (t := 24) (p := 107) rfl ?_); (try (rw [drewN_self wr]; generalize hq_ : World.drewN wr _ = wr; have n0_ := Aside0.mk (Kd.R_at hq_ HO_6.out); have n1_ := Aside0.mk (below_at hq_ HB.out); clear hq_ HO_6 HB; have HO_6 := n0_; have HB := n1_; clear n0_ n1_; (try (have HP45 := Kd.R_putg HO_6.out ((ji41) : Int) x9_4)))); refine store_event (t := 24) (p := 107) (v := ?vo_w46) (w1 := (wr.setCell ⟨go44, ((ji41) : Int).toNat, none⟩ (.int .u64 x9_4))) ?hg ?ho ?hn ?hr ?_; (case ho => rfl); (case hg => rfl); (case hn => rfl); (case hr => first | (go_simp; done) | (go_simp; rfl)); intro w46 hw; have hg : wr.grownBy w46 (some go44) := (by rw [hw]; exact HP45.2); have hp_ : Kd.R (Kd.int .u64) 24 w46 w.heap.size (fun k_ => (w.heap.size ≤ k_)) (.slice (some ⟨go44, 0, none⟩) x6_4.length co44) y187 := (by rw [hw, Ny187.out]; exact HP45.1); clear HP45; have n0_ := Aside0.mk (hp_); have n1_ := Aside0.mk ((by rw [hw]; exact below_set (HB.out) GB44.out : Below w.heap.size w w46)); clear HO_6; clear HB; have HO_6 := n0_; have HB := n1_; clear n0_ n1_; clear hg hw hp_)); (repeat (go_quiet (fail); try go_wp2_with (fail))); (try simp only [← hji41])
                                        (try simp only [← hji32])
                                        go_roundg k4
                                        case measure => have := HJ2.out; have := HJ13.out; have := HK3.out; have := HK4.out; omega
                                        case rel => exact ⟨(y187), (wrap64 (x52_3 + 1)), (by exact pz3), (by first | exact H' | ((try rw [hji41]); (try rw [hji32]); exact H')), ⟨by have := HJ2.out; have := HJ13.out; have := HK3.out; have := HK4.out; omega⟩, ⟨by exact pz9⟩, ⟨by exact pz1⟩⟩
                                      rw [if_neg c43] at H; exact absurd H (by simp)
                                    rw [if_neg c42] at H; exact absurd H (by simp)
                              rw [if_neg c27] at H; exact absurd H (by simp)
                            rw [if_neg c26] at H; exact absurd H (by simp)
                          rw [if_neg c25] at H; have c25b0 := decide_eq_false c25; clear c25; replace H := Option.bind_eq_some_iff.mp H; obtain ⟨⟨t173, t176⟩, A470, H⟩ := H; (try dsimp only at H); have A47 := Aside0.mk A470; clear A470; simp only [Option.some.injEq, Prod.mk.injEq] at H; obtain ⟨rfl, rfl⟩ := H; obtain ⟨Ao48, co48, eo48⟩ := Kd.R_slice HO_6.out; subst eo48; go_wp2_with (first | (go_at_call 102; (with_reducible refine (nat_cut.calls k3 (fun k_ => some k_ = (.slice Ao48 x6_3.length co48 : Value).ownBlock) _ _ x6_3 t173 t176 _ ?side1 A47.out).mono ?_); (case side1 => exact Kd.R_V (Kd.R_tight rfl (HO_6.out))); rintro e w49 ⟨v174, rfl, ho0, hb⟩; have n0_ := Aside0.mk (Kd.R_below (by exact pz9) hb); have n1_ := Aside0.mk (Kd.V_lower (Kd.V_mono (ok' := fun k_ => (w.heap.size ≤ k_)) ho0 (fun k_ hk_ => Or.elim hk_ (fun hs_ => ((HO_6.out).1 k_ hs_.symm)) (fun hn_ => (Nat.le_trans (below_size (by exact pz1)) hn_)))) (below_size (by exact pz1))); have n2_ := Aside0.mk (below_step (by exact pz1) hb); clear HO_6; clear HB; have HO_6 := n0_; have HO175 := n1_; have HB := n2_; clear n0_ n1_ n2_; (try clear hb); (try clear hk); (try clear ho0))); (repeat (go_quiet (fail); try go_wp2_with (fail))); go_ret2; exact ⟨_, by first | rfl | (simp [errW_none, errW_some] <;> rfl) | (simp only [append_nothing]; done) | (simp only [append_nothing]; rfl) | (simp only [← hji20]; first | rfl | (simp [errW_none, errW_some] <;> rfl)) | (simp [*, errW_none, errW_some] <;> rfl), by (with_reducible repeat (first | apply Kd.V_alloc | apply Kd.V_drewN | apply Kd.V_drew)); exact HO175.out, by exact pz1⟩
                    rw [if_neg c22] at H; exact absurd H (by simp)
                  rw [if_neg c21] at H; exact absurd H (by simp)
            rw [if_neg c13] at H; exact absurd H (by simp)
          rw [if_neg c12] at H; exact absurd H (by simp)
        rw [if_neg c10] at H; exact absurd H (by simp)
      rw [if_neg c9] at H; exact absurd H (by simp)

/-! ### nat_Trim: function 151 -/
def nat_Trim.f (k : Nat) (l0 : List Int) : Option (List Int) := (nat_size.f k l0).bind fun n => if 0 ≤ n then (if n ≤ (l0.length : Int) then (if n ≤ 35184372088832 then some (l0.take n.toNat) else none) else none) else none
theorem nat_Trim.mono : ∀ a0 k, LeO (nat_Trim.f k a0) (nat_Trim.f (k + 1) a0) := by
  intro a0 k; unfold nat_Trim.f; exact LeO.bind (nat_size.mono _ _) (fun _ => LeO.refl _)
theorem infoU : (Tryz.prog.info? 24).map (fun i => (i.zero, i.size, i.bytes)) = some (some (.int .u64 0), 1, 8) := by kernel_rfl
theorem infoU1 : (Tryz.prog.info? 24).map (·.size) = some 1 := by kernel_rfl
set_option maxHeartbeats 2000000 in
set_option maxRecDepth 100000 in
theorem nat_Trim.calls (k : Nat) (A0 : Option Addr) (c0 : Nat) (l0 : List Int) (r : List Int) (w : World) (hr0 : Kd.C (Kd.int .u64) w A0 l0.length l0) (hc0 : l0.length ≤ c0) (h : nat_Trim.f k l0 = some r) (HG : Aside0 (GW w) := by exact pz5) :
    Calls Tryz.prog 151 #[.slice A0 l0.length c0] w fun e w' => ∃ v0_ : Value, e = .returned (v0_) ∧ Kd.R (Kd.int .u64) 24 w' w.heap.size (fun _ => True) v0_ r ∧ Below w.heap.size w w' := by
  obtain ⟨n, hn, h⟩ := Option.bind_eq_some_iff.mp h; split at h
  · rename_i c1
    split at h
    · rename_i c2
      split at h
      · rename_i c3
        cases h
        obtain ⟨m, rfl⟩ : ∃ m : Nat, n = (m : Int) := ⟨n.toNat, by omega⟩; have hm : m ≤ l0.length := by omega
        rw [Int.toNat_natCast]; have hl : (l0.take m).length = m := List.length_take_of_le hm; obtain ⟨i0, hi, hz0, hz1, hz2⟩ := info_parts infoU; have hmk : ∀ u : World, (Instr.makeSlice 101 (.int .i64 (m : Int)) (.int .i64 (m : Int))).run Tryz.prog u = .ok (.slice (some ⟨u.heap.size, 0, none⟩) m m) (u.alloc (.cells (madeCells #[.int .u64 0] m) 24)) := fun u => by
          have h := run_make (P := Tryz.prog) u 101 24 i0 (.int .u64 0) Tryz.underlying101 hi hz0 .i64 .i64 (m : Int) (m : Int) (by omega) (Int.le_refl _) (by rw [hz2]; omega) (by omega); rw [Int.toNat_natCast] at h; simpa [hz1, Value.cells] using h
        obtain ⟨cs, hcs⟩ : ∃ cs : List Value, cs = (l0.take m).map (Value.int .u64) := ⟨_, rfl⟩; have hcl : cs.length = m := by rw [hcs, List.length_map, hl]
        have hfin : ∀ u : World, w.heap.size ≤ u.heap.size → Below w.heap.size w u → Kd.R (Kd.int .u64) 24 ((u.alloc (.cells (madeCells #[.int .u64 0] m) 24)).setRow u.heap.size cs.toArray) w.heap.size (fun _ => True) (.slice (some ⟨u.heap.size, 0, none⟩) m m) (l0.take m) ∧ Below w.heap.size w ((u.alloc (.cells (madeCells #[.int .u64 0] m) 24)).setRow u.heap.size cs.toArray) := by
          intro u hu hb; have ho : ((u.alloc (.cells (madeCells #[.int .u64 0] m) 24)).setRow u.heap.size cs.toArray).ownsRow w.heap.size 24 1 (.slice (some ⟨u.heap.size, 0, none⟩) m m) m cs := by
            refine ⟨by omega, .inr ⟨u.heap.size, m, cs.toArray, rfl, hu, setRow_heap _ _ _ _ _ _ (heap_alloc_new u _), Nat.le_refl _, by unfold maxLen; omega, by simp [hcl], ?_⟩⟩; rw [List.take_of_length_le (by simp; omega)]
          rw [hcs] at ho; have ho2 : ((u.alloc (.cells (madeCells #[.int .u64 0] m) 24)).setRow u.heap.size cs.toArray).ownsRow w.heap.size 24 1 (.slice (some ⟨u.heap.size, 0, none⟩) m m) (l0.take m).length ((l0.take m).map (Value.int .u64)) := by rw [hl]; rw [hcs]; exact ho
          refine ⟨by have := Kd.R_of_own (h1 := fun _ => rfl) (ok := fun _ => True) ho2 (fun _ _ => trivial); exact this, ?_⟩; exact below_setRow (hb.alloc hu _) hu _
        have hcopy : ∀ nd : Nat, (Builtin.copy_ #[101, 101] 3 #[.slice (some ⟨w.heap.size, 0, none⟩) m m, .slice A0 m c0]).run Tryz.prog ((w.drewN nd).alloc (.cells (madeCells #[.int .u64 0] m) 24)) = .ok (.int .i64 (m : Int)) (((w.drewN nd).alloc (.cells (madeCells #[.int .u64 0] m) 24)).setRow w.heap.size cs.toArray) := by
          intro nd; have hnew : ((w.drewN nd).alloc (.cells (madeCells #[.int .u64 0] m) 24)).heap[w.heap.size]? = some (.cells (madeCells #[.int .u64 0] m) 24 (0, 0)) := heap_alloc_new (w.drewN nd) _; by_cases h0 : m = 0
          · subst h0
            have e0 : cs = [] := List.eq_nil_of_length_eq_zero hcl; have e1 : ((w.drewN nd).alloc (.cells (madeCells #[.int .u64 0] 0) 24)).setRow w.heap.size cs.toArray = ((w.drewN nd).alloc (.cells (madeCells #[.int .u64 0] 0) 24)) := by
              rw [e0]; have : (madeCells #[Value.int .u64 0] 0) = ([] : List Value).toArray := by simp [madeCells]
              rw [← this]; exact setRow_self _ _ _ _ _ hnew
            rw [e1]; exact run_copy_none (P := Tryz.prog) _ 101 101 3 24 _ _ _ _ _ _ Tryz.underlying101 infoU1 rfl
          obtain ⟨ad, rfl, hcell⟩ := hr0.2.2 (by omega); have hsrc : ∀ j v, cs[j]? = some v → ((w.drewN nd).alloc (.cells (madeCells #[.int .u64 0] m) 24)).cell? (ad.add j) = some v := by
            intro j v hv; rw [hcs, List.getElem?_map, List.getElem?_take] at hv; split at hv
            · cases hx : l0[j]? with
              | none => rw [hx] at hv; cases hv
              | some x =>
                rw [hx] at hv; obtain rfl := Option.some.inj hv; obtain ⟨c, hc1, hc2, hc3⟩ := hcell j x hx; have hc2' : c = [Value.int .u64 x] := hc2; have h4 := hc3 0 _ (by rw [hc2']; rfl); have e5 : j * (Kd.int .u64).sz + 0 = j := by show j * 1 + 0 = j; omega
                rw [e5] at h4; have hb : Below w.heap.size w ((w.drewN nd).alloc (.cells (madeCells #[.int .u64 0] m) 24)) := (pw_below_drewN (Below.refl _ w) nd).alloc (Nat.le_refl _) _; exact (hb.cell (World.block_lt_of_cell? w _ h4)).trans h4
            cases hv
          have h5 := run_copy_row (P := Tryz.prog) ((w.drewN nd).alloc (.cells (madeCells #[.int .u64 0] m) 24)) 101 101 3 24 w.heap.size 0 m m ad m c0 (madeCells #[.int .u64 0] m) 24 cs Tryz.underlying101 infoU1 hnew (by rw [hcl]; exact (Nat.min_self m).symm) hsrc (by rw [hcl]; simp [madeCells]) (by rw [hcs]; intro v hv; obtain ⟨x, _, rfl⟩ := List.mem_map.1 hv; rfl); have e6 : ((madeCells #[Value.int .u64 0] m).toList.take 0 ++ cs ++ (madeCells #[Value.int .u64 0] m).toList.drop (0 + cs.length)) = cs := by
            rw [List.take_zero, List.nil_append, List.drop_of_length_le (by rw [hcl]; simp [madeCells]), List.append_nil]
          rw [e6, hcl] at h5; exact h5
        go_enter Tryz.func151, Tryz.ntmps151; go_wp2_with (go_at_call 100; refine (nat_size.calls k A0 c0 l0 m _ hr0 hc0 hn HG).mono ?_; rintro e w' ⟨rfl, ⟨nd, rfl⟩⟩); have hh := hfin (w.drewN nd) (Nat.le_refl _) (pw_below_drewN (Below.refl _ w) nd); rw [hcs, List.map_take] at hh; go_ret; exact ⟨_, rfl, hh.1, hh.2⟩
      cases h
    cases h
  cases h

/-! ### quot_small: function 148 -/
def quot_small.f (k : Nat) (l0 : List Int) (a1 : Int) : Option (List Int × Bool) := (nat_Trim.f k l0).bind fun t188 => (some (t188, decide ((t188.length : Int) ≤ a1)))
theorem quot_small.mo {P : Prop} (h : P := by repeat' with_reducible first | apply nat_Trim.mono | apply LeO.refl | apply LeO.none | refine LeO.ite ?_ ?_ | refine LeO.bind ?_ (fun _ => ?_)) : P := h
theorem quot_small.mono : ∀ a0 a1 k, LeO (quot_small.f k a0 a1) (quot_small.f (k + 1) a0 a1) := by
  intro a0 a1 k; unfold quot_small.f; exact quot_small.mo
set_option maxHeartbeats 8000000 in
set_option maxRecDepth 100000 in
theorem quot_small.calls (k : Nat) (A0 : Option Addr) (c0 : Nat) (l0 : List Int) (a1 : Int) (r1 : List Int) (r2 : Bool) (w : World) (hr0 : Kd.C (Kd.int .u64) w A0 l0.length l0) (hc0 : l0.length ≤ c0) (h : quot_small.f k l0 a1 = some (r1, r2)) (HG : Aside0 (GW w) := by exact pz5) :
    Calls Tryz.prog 148 #[.slice A0 l0.length c0, .int .i64 a1] w fun e w' => ∃ v0_ : Value, e = .returned (.tuple #[v0_, .bool r2]) ∧ Kd.R (Kd.int .u64) 24 w' w.heap.size (fun _ => True) v0_ r1 ∧ Below w.heap.size w w' := by
  have HR0 := Aside0.mk hr0; have HC0 := Aside0.mk hc0; clear hr0 hc0; have HB := Aside0.mk (Below.refl w.heap.size w); have H := h; clear h; unfold quot_small.f at H; replace H := Option.bind_eq_some_iff.mp H; obtain ⟨t188, A30, H⟩ := H; (try dsimp only at H); have A3 := Aside0.mk A30; clear A30; simp only [Option.some.injEq, Prod.mk.injEq] at H; obtain ⟨rfl, rfl⟩ := H; go_enter Tryz.func148, Tryz.ntmps148; go_wp2_with (first | ((with_reducible refine gate_callee (f := 151) rfl ?_); refine goesL_ (some 8) rfl rfl Tryz.func151 (by kernel_rfl) rfl #[.slice A0 l0.length c0] rfl (by exact pz4) ?_; (with_reducible refine (nat_Trim.calls k _ _ l0 t188 _ ?side1 ?side2 A3.out).mono ?_); (case side1 => repeat (first | exact HR0.out | (with_reducible refine Kd.C_alloc ?_ _) | (with_reducible refine Kd.C_drewN ?_ _) | (with_reducible refine Kd.C_drew ?_))); (case side2 => exact HC0.out); rintro e w4 ⟨v189, rfl, ho0, hb⟩; refine ⟨_, rfl, ?_⟩; have n0_ := Aside0.mk (Kd.R_lower ho0 (below_size (by exact pz1))); have n1_ := Aside0.mk (below_step (by exact pz1) hb); clear HB; have HO190 := n0_; have HB := n1_; clear n0_ n1_; (try clear hb); (try clear ho0); obtain ⟨Ao5, co5, eo5⟩ := Kd.R_slice HO190.out; subst eo5)); go_ret2; exact ⟨_, by first | rfl | (simp [errW_none, errW_some] <;> rfl) | (simp only [append_nothing]; done) | (simp only [append_nothing]; rfl) | (simp [*, errW_none, errW_some] <;> rfl), by (with_reducible repeat (first | apply Kd.R_alloc | apply Kd.R_drewN | apply Kd.R_drew)); exact HO190.out, by exact pz1⟩

/-! ### bits_Len64: function 189 -/
def bits_Len64.f (a0 : Int) : Option Int := if 0 ≤ a0 then (if a0 ≤ 18446744073709551615 then some ((Lib.bitLen a0.toNat : Nat) : Int) else none) else none
theorem bits_Len64.calls (a0 : Int) (r : Int) (w : World) (h : bits_Len64.f a0 = some r) :
    Calls Tryz.prog 189 #[.int .u64 a0] w fun e w' => e = .returned (.int .i64 r) ∧ Drawn0 w w' := by
  unfold bits_Len64.f at h; split at h
  · rename_i h0
    split at h
    · rename_i h1
      cases h
      exact (Tryz.bits_Len64 a0 w h0 h1).mono fun e w' hh => ⟨hh.1, ⟨0, hh.2⟩⟩
    cases h
  cases h

/-! ### nat_BitLen: function 149 -/
def nat_BitLen.f (k : Nat) (l0 : List Int) : Option (Int) := (nat_size.f k l0).bind fun t191 => (if t191 = 0 then (some 0) else (if 0 ≤ (wrap64 (t191 - 1)) then (if (wrap64 (t191 - 1)) < (l0.length : Int) then ((bits_Len64.f (rd l0 (wrap64 (t191 - 1)))).bind fun t193 => (some (wrap64 ((wrap64 (64 * (wrap64 (t191 - 1)))) + t193)))) else (none)) else (none)))
theorem nat_BitLen.mo {P : Prop} (h : P := by repeat' with_reducible first | apply nat_size.mono | apply LeO.refl | apply LeO.none | refine LeO.ite ?_ ?_ | refine LeO.bind ?_ (fun _ => ?_)) : P := h
theorem nat_BitLen.mono : ∀ a0 k, LeO (nat_BitLen.f k a0) (nat_BitLen.f (k + 1) a0) := by
  intro a0 k; unfold nat_BitLen.f; exact nat_BitLen.mo
set_option maxHeartbeats 8000000 in
set_option maxRecDepth 100000 in
theorem nat_BitLen.calls (k : Nat) (A0 : Option Addr) (c0 : Nat) (l0 : List Int) (r : Int) (w : World) (hr0 : Kd.C (Kd.int .u64) w A0 l0.length l0) (hc0 : l0.length ≤ c0) (h : nat_BitLen.f k l0 = some r) (HG : Aside0 (GW w) := by exact pz5) :
    Calls Tryz.prog 149 #[.slice A0 l0.length c0] w fun e w' => e = .returned (.int .i64 r) ∧ Drawn0 w w' := by
  have HR0 := Aside0.mk hr0; have HC0 := Aside0.mk hc0; clear hr0 hc0; have H := h; clear h; unfold nat_BitLen.f at H; replace H := Option.bind_eq_some_iff.mp H; obtain ⟨t191, A20, H⟩ := H; (try dsimp only at H); have A2 := Aside0.mk A20; clear A20; by_cases c3 : t191 = 0
  · rw [if_pos c3] at H
    have c3b0 := beq_iff_eq.mpr c3; have c3b1 := bne_eq_false_iff_eq.mpr c3; clear c3; obtain rfl := Option.some.inj H; go_enter Tryz.func149, Tryz.ntmps149; go_wp2_with (first | ((with_reducible refine gate_callee (f := 100) rfl ?_); refine goesL_ (some 5) rfl rfl Tryz.func100 (by kernel_rfl) rfl #[.slice A0 l0.length c0] rfl (by exact pz4) ?_; (with_reducible refine (nat_size.calls k _ _ l0 t191 _ ?side1 ?side2 A2.out).mono ?_); (case side1 => repeat (first | exact HR0.out | (with_reducible refine Kd.C_alloc ?_ _) | (with_reducible refine Kd.C_drewN ?_ _) | (with_reducible refine Kd.C_drew ?_))); (case side2 => exact HC0.out); rintro e w' ⟨rfl, ⟨nd, rfl⟩⟩; refine ⟨_, rfl, ?_⟩)); go_ret; exact ⟨by exact pz3, by repeat (first | exact Drawn0.refl _ | apply Drawn0.step)⟩
  rw [if_neg c3] at H; have c3b0 := beq_eq_false_iff_ne.mpr c3; have c3b1 := bne_iff_ne.mpr c3; obtain ⟨ji4, hji4⟩ : ∃ j_ : Int, (wrap64 (t191 - 1)) = j_ := ⟨_, rfl⟩; replace H : (if 0 ≤ (ji4) then (if (ji4) < (l0.length : Int) then ((bits_Len64.f (rd l0 (ji4))).bind fun t193 => (some (wrap64 ((wrap64 (64 * (ji4))) + t193)))) else (none)) else (none)) = some r := by first | (rw [hji4] at H; exact H) | (simp only [hji4] at H ⊢; exact H)
  (try rw [hji4] at A2)
  have hji4w : (IntKind.i64.wrap (t191 - 1)) = ji4 := (i64_w _).trans hji4; by_cases c5 : 0 ≤ (ji4)
  · rw [if_pos c5] at H
    have c5b0 := decide_eq_true c5; clear c5; by_cases c6 : (ji4) < (l0.length : Int)
    · rw [if_pos c6] at H
      have c6b0 := decide_eq_true c6; clear c6; replace H := Option.bind_eq_some_iff.mp H; obtain ⟨t193, A70, H⟩ := H; (try dsimp only at H); have A7 := Aside0.mk A70; clear A70; obtain rfl := Option.some.inj H; go_enter Tryz.func149, Tryz.ntmps149; go_wp2_with (first | ((with_reducible refine gate_callee (f := 100) rfl ?_); refine goesL_ (some 5) rfl rfl Tryz.func100 (by kernel_rfl) rfl #[.slice A0 l0.length c0] rfl (by exact pz4) ?_; (with_reducible refine (nat_size.calls k _ _ l0 t191 _ ?side1 ?side2 A2.out).mono ?_); (case side1 => repeat (first | exact HR0.out | (with_reducible refine Kd.C_alloc ?_ _) | (with_reducible refine Kd.C_drewN ?_ _) | (with_reducible refine Kd.C_drew ?_))); (case side2 => exact HC0.out); rintro e w' ⟨rfl, ⟨nd, rfl⟩⟩; refine ⟨_, rfl, ?_⟩; have p192 : 0 ≤ ((ji4) : Int) := of_decide_eq_true (by exact pz8); have q192 : (ji4) < (l0.length : Int) := of_decide_eq_true (by exact pz8); obtain ⟨ad192, e192, hx192_0⟩ := Kd.at_int HR0.out (ji4) p192 q192; cases e192; replace p192 := eq_true p192; replace q192 := eq_true q192) | ((with_reducible refine gate_callee (f := 189) rfl ?_); refine goesL_ (some 16) rfl rfl Tryz.func189 (by kernel_rfl) rfl #[.int .u64 (rd l0 (ji4))] rfl (by (try simp only [List.map_toArray, List.map_cons, List.map_nil]); first | done | (simp only [hji4]; rfl) | rfl | (simp only [List.length_drop, List.length_take]; rfl)) ?_; (with_reducible refine (bits_Len64.calls (rd l0 (ji4)) t193 _ A7.out).mono ?_); rintro e w' ⟨rfl, ⟨nd, rfl⟩⟩; refine ⟨_, rfl, ?_⟩)); go_ret; exact ⟨by first | rfl | (simp; done) | (simp only [← hji4] <;> (first | rfl | simp)) | (simp [*]; done), by repeat (first | exact Drawn0.refl _ | apply Drawn0.step)⟩
    rw [if_neg c6] at H; exact absurd H (by simp)
  rw [if_neg c5] at H; exact absurd H (by simp)

/-! ### bits_Len: function 150 -/
def bits_Len.f (a0 : Int) : Option Int := if 0 ≤ a0 then (if a0 ≤ 18446744073709551615 then some ((Lib.bitLen a0.toNat : Nat) : Int) else none) else none
theorem bits_Len.calls (a0 : Int) (r : Int) (w : World) (h : bits_Len.f a0 = some r) :
    Calls Tryz.prog 150 #[.int .u64 a0] w fun e w' => e = .returned (.int .i64 r) ∧ Drawn0 w w' := by
  unfold bits_Len.f at h; split at h
  · rename_i h0
    split at h
    · rename_i h1
      cases h
      exact (Tryz.bits_Len a0 w h0 h1).mono fun e w' hh => ⟨hh.1, ⟨0, hh.2⟩⟩
    cases h
  cases h

end Go.Proofs.YtgbjojokjekmhaaGreatDoor.PXC
