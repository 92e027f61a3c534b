/- The machine's side of a law, printed by a program of this session out of the translation; conditions: none. -/
import Derived.Test.YtoanmnhkhookfaaGreatDoorEval
import Derived.Test.YtoanmnhkhookfaaGreatDoorPXRelateTextsx0
import Derived.Test.YtoanmnhkhookfaaGreatDoorPXRelateTextsx5
import Derived.Test.YtoanmnhkhookfaaGreatDoorPXRelateTextsx6
import Derived.Test.YtoanmnhkhookfaaGreatDoorPXRelateTextsx7
namespace Go.Proofs.YtoanmnhkhookfaaGreatDoor.PXRelateTexts
open Go.Proofs.YtoanmnhkhookfaaGreatDoor
open Go.RowKit Go.Proofs.YtoanmnhkhookfaaGreatDoorW.PrintWords Go.Proofs.YtoanmnhkhookfaaGreatDoorW.PrintLast Go.Proofs.YtoanmnhkhookfaaGreatDoorW.PrintMore
attribute [local go_sem] max2_int min2_int max_two min_two max_three min_three max_four min_four   -- for this text's walks alone
set_option linter.unusedVariables false
set_option linter.unusedSimpArgs false

/-! ### abacuslaw18_awake: function 15 -/
def abacuslaw18_awake.j0 : Nat → Bool → Option (Bool)
  | 0, _ => none
  | k + 1, x31 => if x31 = true then (some false) else ((abacuslaw18_str.f (⟨#[98]⟩ : ByteArray)).bind fun bt238 => ((abacuslaw18_num.f 4607182418800017408).bind fun bt241 => ((abacuslaw18_str.f (⟨#[97]⟩ : ByteArray)).bind fun bt244 => ((relate_Sort.f (([(⟨bt238.1, bt238.2.1, bt238.2.2⟩ : S29), (⟨bt241.1, bt241.2.1, bt241.2.2⟩ : S29), (⟨bt244.1, bt244.2.1, bt244.2.2⟩ : S29)] : List (S29)))).bind fun t250 => (if (t250.length : Int) = 3 then (if 0 < (t250.length : Int) then (if (rd t250 0) = 1 then (if 1 < (t250.length : Int) then (if (rd t250 1) = 2 then (if 2 < (t250.length : Int) then (if (rd t250 2) = 0 then ((abacuslaw18_queued.f).bind fun t256 => (some t256)) else (some false)) else (none)) else (some false)) else (none)) else (some false)) else (none)) else (some false))))))
def abacuslaw18_awake.f (k : Nat)  : Option (Bool) := (abacuslaw18_str.f (⟨#[49, 48]⟩ : ByteArray)).bind fun bt222 => ((abacuslaw18_num.f 4621256167635550208).bind fun bt225 => ((relate_Compare.f k bt222.1 bt222.2.1 bt222.2.2 bt225.1 bt225.2.1 bt225.2.2 (⟨#[37, 46, 54, 103]⟩ : ByteArray)).bind fun bt228 => ((abacuslaw18_num.f 4611686018427387904).bind fun bt230 => ((abacuslaw18_num.f 4607182418800017408).bind fun bt233 => ((relate_Holds.f k 5 bt230.1 bt230.2.1 bt230.2.2 bt233.1 bt233.2.1 bt233.2.2 (⟨#[]⟩ : ByteArray)).bind fun bt236 => (if bt228.1 = (-1) then (if bt228.2 = 0 then (if bt236.1 = true then (abacuslaw18_awake.j0 k (bt236.2 != 0)) else (abacuslaw18_awake.j0 k true)) else (abacuslaw18_awake.j0 k true)) else (abacuslaw18_awake.j0 k true)))))))
theorem abacuslaw18_awake.mono_l : ∀ k, (∀ y0, LeO (abacuslaw18_awake.j0 k y0) (abacuslaw18_awake.j0 (k + 1) y0))
  | 0 => fun _ r h => by simp [abacuslaw18_awake.j0] at h
  | k + 1 => by
    have ih0 := abacuslaw18_awake.mono_l k
    · intro y0
      unfold abacuslaw18_awake.j0
      repeat' first
      | (with_reducible exact ih0 _)
      | (with_reducible exact relate_Compare.mono _ _ _ _ _ _ _ _)
      | (with_reducible exact relate_Holds.mono _ _ _ _ _ _ _ _ _)
      | (with_reducible exact LeO.refl _)
      | (with_reducible exact LeO.none _)
      | (with_reducible refine LeO.ite ?_ ?_)
      | (with_reducible refine LeO.bind ?_ (fun _ => ?_))
      | exact ih0 _
      | exact relate_Compare.mono _ _ _ _ _ _ _ _
      | exact relate_Holds.mono _ _ _ _ _ _ _ _ _
      | exact LeO.none _
      | refine LeO.ite ?_ ?_
      | refine LeO.bind ?_ (fun _ => ?_)
theorem abacuslaw18_awake.mono : ∀ k, LeO (abacuslaw18_awake.f k ) (abacuslaw18_awake.f (k + 1) ) := by
  intro  k
  have ih0 := abacuslaw18_awake.mono_l k
  unfold abacuslaw18_awake.f
  repeat' first
      | (with_reducible exact ih0 _)
      | (with_reducible exact relate_Compare.mono _ _ _ _ _ _ _ _)
      | (with_reducible exact relate_Holds.mono _ _ _ _ _ _ _ _ _)
      | (with_reducible exact LeO.refl _)
      | (with_reducible exact LeO.none _)
      | (with_reducible refine LeO.ite ?_ ?_)
      | (with_reducible refine LeO.bind ?_ (fun _ => ?_))
      | exact ih0 _
      | exact relate_Compare.mono _ _ _ _ _ _ _ _
      | exact relate_Holds.mono _ _ _ _ _ _ _ _ _
      | exact LeO.none _
      | refine LeO.ite ?_ ?_
      | refine LeO.bind ?_ (fun _ => ?_)
set_option maxHeartbeats 8000000 in
set_option maxRecDepth 100000 in
theorem abacuslaw18_awake.calls (k : Nat)  (r : Bool) (w : World) (h : abacuslaw18_awake.f k  = some r) (HG : Aside0 (GW w) := by first | (with_reducible exact HG) | exact ⟨GW.below HG.out (by repeat (first | (with_reducible first | exact HB.out | apply below_alloc | apply pw_below_drewN | apply below_drew1) | (with_reducible refine below_set ?_ (Aside0.out (by assumption))) | exact HB.out | exact Below.refl _ _))⟩ | exact ⟨GW.drewN HG.out _⟩ | exact ⟨GW.drew HG.out⟩ | exact ⟨GW.drewN (GW.drewN HG.out _) _⟩ | exact ⟨GW.drewN (GW.drew HG.out) _⟩) :
    Calls Tryz.prog 15 #[] w fun e w' => e = .returned (.bool r) ∧ Below w.heap.size w w' := by
  have HB := Aside0.mk (Below.refl w.heap.size w)
  have H : ((abacuslaw18_str.f (⟨#[49, 48]⟩ : ByteArray)).bind fun bt222 => ((abacuslaw18_num.f 4621256167635550208).bind fun bt225 => ((relate_Compare.f k bt222.1 bt222.2.1 bt222.2.2 bt225.1 bt225.2.1 bt225.2.2 (⟨#[37, 46, 54, 103]⟩ : ByteArray)).bind fun bt228 => ((abacuslaw18_num.f 4611686018427387904).bind fun bt230 => ((abacuslaw18_num.f 4607182418800017408).bind fun bt233 => ((relate_Holds.f k 5 bt230.1 bt230.2.1 bt230.2.2 bt233.1 bt233.2.1 bt233.2.2 (⟨#[]⟩ : ByteArray)).bind fun bt236 => (if bt228.1 = (-1) then (if bt228.2 = 0 then (if bt236.1 = true then (abacuslaw18_awake.j0 k (bt236.2 != 0)) else (abacuslaw18_awake.j0 k true)) else (abacuslaw18_awake.j0 k true)) else (abacuslaw18_awake.j0 k true)))))))) = some r := h
  clear h
  replace H := Option.bind_eq_some_iff.mp H
  obtain ⟨⟨t222, t223, t224⟩, A10, H⟩ := H
  replace H : ((abacuslaw18_num.f 4621256167635550208).bind fun bt225 => ((relate_Compare.f k t222 t223 t224 bt225.1 bt225.2.1 bt225.2.2 (⟨#[37, 46, 54, 103]⟩ : ByteArray)).bind fun bt228 => ((abacuslaw18_num.f 4611686018427387904).bind fun bt230 => ((abacuslaw18_num.f 4607182418800017408).bind fun bt233 => ((relate_Holds.f k 5 bt230.1 bt230.2.1 bt230.2.2 bt233.1 bt233.2.1 bt233.2.2 (⟨#[]⟩ : ByteArray)).bind fun bt236 => (if bt228.1 = (-1) then (if bt228.2 = 0 then (if bt236.1 = true then (abacuslaw18_awake.j0 k (bt236.2 != 0)) else (abacuslaw18_awake.j0 k true)) else (abacuslaw18_awake.j0 k true)) else (abacuslaw18_awake.j0 k true))))))) = some r := H
  have A1 := Aside0.mk A10
  clear A10
  replace H := Option.bind_eq_some_iff.mp H
  obtain ⟨⟨t225, t226, t227⟩, A20, H⟩ := H
  replace H : ((relate_Compare.f k t222 t223 t224 t225 t226 t227 (⟨#[37, 46, 54, 103]⟩ : ByteArray)).bind fun bt228 => ((abacuslaw18_num.f 4611686018427387904).bind fun bt230 => ((abacuslaw18_num.f 4607182418800017408).bind fun bt233 => ((relate_Holds.f k 5 bt230.1 bt230.2.1 bt230.2.2 bt233.1 bt233.2.1 bt233.2.2 (⟨#[]⟩ : ByteArray)).bind fun bt236 => (if bt228.1 = (-1) then (if bt228.2 = 0 then (if bt236.1 = true then (abacuslaw18_awake.j0 k (bt236.2 != 0)) else (abacuslaw18_awake.j0 k true)) else (abacuslaw18_awake.j0 k true)) else (abacuslaw18_awake.j0 k true)))))) = some r := H
  have A2 := Aside0.mk A20
  clear A20
  replace H := Option.bind_eq_some_iff.mp H
  obtain ⟨⟨t228, t229⟩, A30, H⟩ := H
  replace H : ((abacuslaw18_num.f 4611686018427387904).bind fun bt230 => ((abacuslaw18_num.f 4607182418800017408).bind fun bt233 => ((relate_Holds.f k 5 bt230.1 bt230.2.1 bt230.2.2 bt233.1 bt233.2.1 bt233.2.2 (⟨#[]⟩ : ByteArray)).bind fun bt236 => (if t228 = (-1) then (if t229 = 0 then (if bt236.1 = true then (abacuslaw18_awake.j0 k (bt236.2 != 0)) else (abacuslaw18_awake.j0 k true)) else (abacuslaw18_awake.j0 k true)) else (abacuslaw18_awake.j0 k true))))) = some r := H
  have A3 := Aside0.mk A30
  clear A30
  replace H := Option.bind_eq_some_iff.mp H
  obtain ⟨⟨t230, t231, t232⟩, A40, H⟩ := H
  replace H : ((abacuslaw18_num.f 4607182418800017408).bind fun bt233 => ((relate_Holds.f k 5 t230 t231 t232 bt233.1 bt233.2.1 bt233.2.2 (⟨#[]⟩ : ByteArray)).bind fun bt236 => (if t228 = (-1) then (if t229 = 0 then (if bt236.1 = true then (abacuslaw18_awake.j0 k (bt236.2 != 0)) else (abacuslaw18_awake.j0 k true)) else (abacuslaw18_awake.j0 k true)) else (abacuslaw18_awake.j0 k true)))) = some r := H
  have A4 := Aside0.mk A40
  clear A40
  replace H := Option.bind_eq_some_iff.mp H
  obtain ⟨⟨t233, t234, t235⟩, A50, H⟩ := H
  replace H : ((relate_Holds.f k 5 t230 t231 t232 t233 t234 t235 (⟨#[]⟩ : ByteArray)).bind fun bt236 => (if t228 = (-1) then (if t229 = 0 then (if bt236.1 = true then (abacuslaw18_awake.j0 k (bt236.2 != 0)) else (abacuslaw18_awake.j0 k true)) else (abacuslaw18_awake.j0 k true)) else (abacuslaw18_awake.j0 k true))) = some r := H
  have A5 := Aside0.mk A50
  clear A50
  replace H := Option.bind_eq_some_iff.mp H
  obtain ⟨⟨t236, t237⟩, A60, H⟩ := H
  replace H : (if t228 = (-1) then (if t229 = 0 then (if t236 = true then (abacuslaw18_awake.j0 k (t237 != 0)) else (abacuslaw18_awake.j0 k true)) else (abacuslaw18_awake.j0 k true)) else (abacuslaw18_awake.j0 k true)) = some r := H
  have A6 := Aside0.mk A60
  clear A60
  have HC7 := Aside0.mk H
  clear H
  go_enter Tryz.func15, Tryz.ntmps15
  go_upto_region 3 with (first | ((with_reducible refine gate_callee (f := 18) rfl ?_); refine goesL_ (some 7) rfl rfl Tryz.func18 (by kernel_rfl) rfl #[.string (⟨#[49, 48]⟩ : ByteArray)] rfl (by (try simp only [List.map_toArray, List.map_cons, List.map_nil]); first | done | rfl | (simp only [List.length_drop, List.length_take]; rfl)) ?_; (with_reducible refine (abacuslaw18_str.calls (⟨#[49, 48]⟩ : ByteArray) t222 t223 t224 _ A1.out).mono ?_); rintro e w8 ⟨rfl, hb⟩; refine ⟨_, rfl, ?_⟩; have n0_ := Aside0.mk (below_step (by repeat (first | (with_reducible first | exact HB.out | apply below_alloc | apply pw_below_drewN | apply below_drew1) | exact HB.out)) hb); clear HB; have HB := n0_; clear n0_; (try clear hb); (try clear hb2); (try clear hk); (try clear hi)) | ((with_reducible refine gate_callee (f := 20) rfl ?_); refine goesL_ (some 8) rfl rfl Tryz.func20 (by kernel_rfl) rfl #[.int .u64 4621256167635550208] rfl (by (try simp only [List.map_toArray, List.map_cons, List.map_nil]); first | done | rfl | (simp only [List.length_drop, List.length_take]; rfl)) ?_; (with_reducible refine (abacuslaw18_num.calls 4621256167635550208 t225 t226 t227 _ A2.out).mono ?_); rintro e w9 ⟨rfl, hb⟩; refine ⟨_, rfl, ?_⟩; have n0_ := Aside0.mk (below_step (by repeat (first | (with_reducible first | exact HB.out | apply below_alloc | apply pw_below_drewN | apply below_drew1) | exact HB.out)) hb); clear HB; have HB := n0_; clear n0_; (try clear hb); (try clear hb2); (try clear hk); (try clear hi)) | ((with_reducible refine gate_callee (f := 17) rfl ?_); refine goesL_ (some 9) rfl rfl Tryz.func17 (by kernel_rfl) rfl #[.agg #[.int .i64 t222, .int .u64 t223, .string t224], .agg #[.int .i64 t225, .int .u64 t226, .string t227], .string (⟨#[37, 46, 54, 103]⟩ : ByteArray)] rfl (by (try simp only [List.map_toArray, List.map_cons, List.map_nil]); first | done | rfl | (simp only [List.length_drop, List.length_take]; rfl)) ?_; (with_reducible refine (relate_Compare.calls k t222 t223 t224 t225 t226 t227 (⟨#[37, 46, 54, 103]⟩ : ByteArray) t228 t229 _ A3.out).mono ?_); rintro e w10 ⟨rfl, hb⟩; refine ⟨_, rfl, ?_⟩; have n0_ := Aside0.mk (below_step (by repeat (first | (with_reducible first | exact HB.out | apply below_alloc | apply pw_below_drewN | apply below_drew1) | exact HB.out)) hb); clear HB; have HB := n0_; clear n0_; (try clear hb); (try clear hb2); (try clear hk); (try clear hi)) | ((with_reducible refine gate_callee (f := 20) rfl ?_); refine goesL_ (some 13) rfl rfl Tryz.func20 (by kernel_rfl) rfl #[.int .u64 4611686018427387904] rfl (by (try simp only [List.map_toArray, List.map_cons, List.map_nil]); first | done | rfl | (simp only [List.length_drop, List.length_take]; rfl)) ?_; (with_reducible refine (abacuslaw18_num.calls 4611686018427387904 t230 t231 t232 _ A4.out).mono ?_); rintro e w11 ⟨rfl, hb⟩; refine ⟨_, rfl, ?_⟩; have n0_ := Aside0.mk (below_step (by repeat (first | (with_reducible first | exact HB.out | apply below_alloc | apply pw_below_drewN | apply below_drew1) | exact HB.out)) hb); clear HB; have HB := n0_; clear n0_; (try clear hb); (try clear hb2); (try clear hk); (try clear hi)) | ((with_reducible refine gate_callee (f := 20) rfl ?_); refine goesL_ (some 14) rfl rfl Tryz.func20 (by kernel_rfl) rfl #[.int .u64 4607182418800017408] rfl (by (try simp only [List.map_toArray, List.map_cons, List.map_nil]); first | done | rfl | (simp only [List.length_drop, List.length_take]; rfl)) ?_; (with_reducible refine (abacuslaw18_num.calls 4607182418800017408 t233 t234 t235 _ A5.out).mono ?_); rintro e w12 ⟨rfl, hb⟩; refine ⟨_, rfl, ?_⟩; have n0_ := Aside0.mk (below_step (by repeat (first | (with_reducible first | exact HB.out | apply below_alloc | apply pw_below_drewN | apply below_drew1) | exact HB.out)) hb); clear HB; have HB := n0_; clear n0_; (try clear hb); (try clear hb2); (try clear hk); (try clear hi)) | ((with_reducible refine gate_callee (f := 50) rfl ?_); refine goesL_ (some 15) rfl rfl Tryz.func50 (by kernel_rfl) rfl #[.int .i64 5, .agg #[.int .i64 t230, .int .u64 t231, .string t232], .agg #[.int .i64 t233, .int .u64 t234, .string t235], .string (⟨#[]⟩ : ByteArray)] rfl (by (try simp only [List.map_toArray, List.map_cons, List.map_nil]); first | done | rfl | (simp only [List.length_drop, List.length_take]; rfl)) ?_; (with_reducible refine (relate_Holds.calls k 5 t230 t231 t232 t233 t234 t235 (⟨#[]⟩ : ByteArray) t236 t237 _ A6.out).mono ?_); rintro e w13 ⟨rfl, hb⟩; refine ⟨_, rfl, ?_⟩; have n0_ := Aside0.mk (below_step (by repeat (first | (with_reducible first | exact HB.out | apply below_alloc | apply pw_below_drewN | apply below_drew1) | exact HB.out)) hb); clear HB; have HB := n0_; clear n0_; (try clear hb); (try clear hb2); (try clear hk); (try clear hi)))
  (try simp only [Act.put, List.setIfInBounds_toArray, List.set_cons_zero, List.set_cons_succ])
  go_cut [31] (fun v31 wc => ∃ (kq : Nat) (x31_6 : Bool), v31 = .bool x31_6 ∧ Aside0 (abacuslaw18_awake.j0 kq x31_6 = some r) ∧ Aside0 (kq ≤ k) ∧ Aside0 (Below w.heap.size w wc))
  case first =>
    have H := HC7.out
    clear HC7
    by_cases c14 : t228 = (-1)
    · rw [if_pos c14] at H
      have c14b0 : (t228 == (-1)) = true := beq_iff_eq.mpr c14
      have c14b1 : (t228 != (-1)) = false := bne_eq_false_iff_eq.mpr c14
      clear c14
      (first | rw [c14b0] | (simp only [i64_w, i32_w]; rw [c14b0]) | skip)
      by_cases c15 : t229 = 0
      · rw [if_pos c15] at H
        have c15b0 : (t229 == 0) = true := beq_iff_eq.mpr c15
        have c15b1 : (t229 != 0) = false := bne_eq_false_iff_eq.mpr c15
        clear c15
        by_cases c16 : t236 = true
        · subst c16
          have H1 : (abacuslaw18_awake.j0 k (t237 != 0)) = some r := by rw [if_pos rfl] at H; exact H
          clear H
          have H := H1
          clear H1
          have H' := Aside0.mk H
          clear H
          go_wp2
          go_meet
          case rel => exact ⟨_, ((t237 != 0)), (by first | rfl | (simp; done) | (simp [*]; done)), H', ⟨by first | omega | exact Nat.le_refl _⟩, ⟨by repeat (first | (with_reducible first | exact HB.out | apply below_alloc | apply pw_below_drewN | apply below_drew1) | exact HB.out)⟩⟩
        · replace c16 := Bool.eq_false_iff.mpr c16
          subst c16
          have H1 : (abacuslaw18_awake.j0 k true) = some r := by rw [if_neg (show ¬ (false = true) by decide)] at H; exact H
          clear H
          have H := H1
          clear H1
          have H' := Aside0.mk H
          clear H
          go_wp2
          go_meet
          case rel => exact ⟨_, (true), (by first | rfl | (simp; done) | (simp [*]; done)), H', ⟨by first | omega | exact Nat.le_refl _⟩, ⟨by repeat (first | (with_reducible first | exact HB.out | apply below_alloc | apply pw_below_drewN | apply below_drew1) | exact HB.out)⟩⟩
      · rw [if_neg c15] at H
        have c15b0 : (t229 == 0) = false := beq_eq_false_iff_ne.mpr c15
        have c15b1 : (t229 != 0) = true := bne_iff_ne.mpr c15
        have H' := Aside0.mk H
        clear H
        go_wp2
        go_meet
        case rel => exact ⟨_, (true), (by first | rfl | (simp; done) | (simp [*]; done)), H', ⟨by first | omega | exact Nat.le_refl _⟩, ⟨by repeat (first | (with_reducible first | exact HB.out | apply below_alloc | apply pw_below_drewN | apply below_drew1) | exact HB.out)⟩⟩
    · rw [if_neg c14] at H
      have c14b0 : (t228 == (-1)) = false := beq_eq_false_iff_ne.mpr c14
      have c14b1 : (t228 != (-1)) = true := bne_iff_ne.mpr c14
      (first | rw [c14b0] | (simp only [i64_w, i32_w]; rw [c14b0]) | skip)
      have H' := Aside0.mk H
      clear H
      go_wp2
      go_meet
      case rel => exact ⟨_, (true), (by first | rfl | (simp; done) | (simp [*]; done)), H', ⟨by first | omega | exact Nat.le_refl _⟩, ⟨by repeat (first | (with_reducible first | exact HB.out | apply below_alloc | apply pw_below_drewN | apply below_drew1) | exact HB.out)⟩⟩
  case rest =>
    clear HC7
    try clear c1
    try clear c2
    try clear p2
    try clear c5
    try clear c14
    try clear c14b0
    try clear c14b1
    try clear c15
    try clear c15b0
    try clear c15b1
    try clear c16
    obtain ⟨kq, x31_6, rfl, HA, HJ6, HB⟩ := hcut
    cases kq with
    | zero => exact absurd HA.out (by simp [abacuslaw18_awake.j0])
    | succ kj6 =>
      have H := HA.out
      clear HA
      simp only [abacuslaw18_awake.j0] at H
      by_cases c17 : x31_6 = true
      · subst c17
        have H1 : (some false) = some r := by rw [if_pos rfl] at H; exact H
        clear H
        have H := H1
        clear H1
        obtain rfl := Option.some.inj H
        go_wp2
        go_ret
        exact ⟨by first | rfl | (simp [errW_none, errW_some] <;> rfl) | (simp only [append_nothing]; done) | (simp only [append_nothing]; rfl) | (simp [*, errW_none, errW_some] <;> rfl), by repeat (first | (with_reducible first | exact HB.out | apply below_alloc | apply pw_below_drewN | apply below_drew1) | exact HB.out)⟩
      · replace c17 := Bool.eq_false_iff.mpr c17
        subst c17
        have H1 : ((abacuslaw18_str.f (⟨#[98]⟩ : ByteArray)).bind fun bt238 => ((abacuslaw18_num.f 4607182418800017408).bind fun bt241 => ((abacuslaw18_str.f (⟨#[97]⟩ : ByteArray)).bind fun bt244 => ((relate_Sort.f (([(⟨bt238.1, bt238.2.1, bt238.2.2⟩ : S29), (⟨bt241.1, bt241.2.1, bt241.2.2⟩ : S29), (⟨bt244.1, bt244.2.1, bt244.2.2⟩ : S29)] : List (S29)))).bind fun t250 => (if (t250.length : Int) = 3 then (if 0 < (t250.length : Int) then (if (rd t250 0) = 1 then (if 1 < (t250.length : Int) then (if (rd t250 1) = 2 then (if 2 < (t250.length : Int) then (if (rd t250 2) = 0 then ((abacuslaw18_queued.f).bind fun t256 => (some t256)) else (some false)) else (none)) else (some false)) else (none)) else (some false)) else (none)) else (some false)))))) = some r := by rw [if_neg (show ¬ (false = true) by decide)] at H; exact H
        clear H
        have H := H1
        clear H1
        replace H := Option.bind_eq_some_iff.mp H
        obtain ⟨⟨t238, t239, t240⟩, A180, H⟩ := H
        replace H : ((abacuslaw18_num.f 4607182418800017408).bind fun bt241 => ((abacuslaw18_str.f (⟨#[97]⟩ : ByteArray)).bind fun bt244 => ((relate_Sort.f (([(⟨t238, t239, t240⟩ : S29), (⟨bt241.1, bt241.2.1, bt241.2.2⟩ : S29), (⟨bt244.1, bt244.2.1, bt244.2.2⟩ : S29)] : List (S29)))).bind fun t250 => (if (t250.length : Int) = 3 then (if 0 < (t250.length : Int) then (if (rd t250 0) = 1 then (if 1 < (t250.length : Int) then (if (rd t250 1) = 2 then (if 2 < (t250.length : Int) then (if (rd t250 2) = 0 then ((abacuslaw18_queued.f).bind fun t256 => (some t256)) else (some false)) else (none)) else (some false)) else (none)) else (some false)) else (none)) else (some false))))) = some r := H
        have A18 := Aside0.mk A180
        clear A180
        replace H := Option.bind_eq_some_iff.mp H
        obtain ⟨⟨t241, t242, t243⟩, A190, H⟩ := H
        obtain ⟨rfl, rfl, rfl⟩ : t233 = t241 ∧ t234 = t242 ∧ t235 = t243 := same3 A5.out A190
        replace H : ((abacuslaw18_str.f (⟨#[97]⟩ : ByteArray)).bind fun bt244 => ((relate_Sort.f (([(⟨t238, t239, t240⟩ : S29), (⟨t233, t234, t235⟩ : S29), (⟨bt244.1, bt244.2.1, bt244.2.2⟩ : S29)] : List (S29)))).bind fun t250 => (if (t250.length : Int) = 3 then (if 0 < (t250.length : Int) then (if (rd t250 0) = 1 then (if 1 < (t250.length : Int) then (if (rd t250 1) = 2 then (if 2 < (t250.length : Int) then (if (rd t250 2) = 0 then ((abacuslaw18_queued.f).bind fun t256 => (some t256)) else (some false)) else (none)) else (some false)) else (none)) else (some false)) else (none)) else (some false)))) = some r := H
        have A19 := Aside0.mk A190
        clear A190
        replace H := Option.bind_eq_some_iff.mp H
        obtain ⟨⟨t244, t245, t246⟩, A200, H⟩ := H
        replace H : ((relate_Sort.f (([(⟨t238, t239, t240⟩ : S29), (⟨t233, t234, t235⟩ : S29), (⟨t244, t245, t246⟩ : S29)] : List (S29)))).bind fun t250 => (if (t250.length : Int) = 3 then (if 0 < (t250.length : Int) then (if (rd t250 0) = 1 then (if 1 < (t250.length : Int) then (if (rd t250 1) = 2 then (if 2 < (t250.length : Int) then (if (rd t250 2) = 0 then ((abacuslaw18_queued.f).bind fun t256 => (some t256)) else (some false)) else (none)) else (some false)) else (none)) else (some false)) else (none)) else (some false))) = some r := H
        have A20 := Aside0.mk A200
        clear A200
        obtain ⟨y247, hy247⟩ : ∃ y_ : List (S29), y_ = (([(⟨t238, t239, t240⟩ : S29), (⟨t233, t234, t235⟩ : S29), (⟨t244, t245, t246⟩ : S29)] : List (S29))) := ⟨_, rfl⟩
        replace H : ((relate_Sort.f y247).bind fun t250 => (if (t250.length : Int) = 3 then (if 0 < (t250.length : Int) then (if (rd t250 0) = 1 then (if 1 < (t250.length : Int) then (if (rd t250 1) = 2 then (if 2 < (t250.length : Int) then (if (rd t250 2) = 0 then ((abacuslaw18_queued.f).bind fun t256 => (some t256)) else (some false)) else (none)) else (some false)) else (none)) else (some false)) else (none)) else (some false))) = some r := by first | (rw [hy247]; with_reducible exact H) | (have H2_ := (Option.bind_some _ _).symm.trans H; rw [hy247]; with_reducible exact H2_) | (have H2_ := (Option.bind_some _ _).symm.trans H; with_reducible exact H2_) | with_reducible exact H | (rw [hy247]; exact H) | exact H
        have Ny247 := Aside0.mk hy247
        clear hy247
        replace H := Option.bind_eq_some_iff.mp H
        obtain ⟨t250, A210, H⟩ := H
        replace H : (if (t250.length : Int) = 3 then (if 0 < (t250.length : Int) then (if (rd t250 0) = 1 then (if 1 < (t250.length : Int) then (if (rd t250 1) = 2 then (if 2 < (t250.length : Int) then (if (rd t250 2) = 0 then ((abacuslaw18_queued.f).bind fun t256 => (some t256)) else (some false)) else (none)) else (some false)) else (none)) else (some false)) else (none)) else (some false)) = some r := H
        have A21 := Aside0.mk A210
        clear A210
        by_cases c22 : (t250.length : Int) = 3
        · rw [if_pos c22] at H
          have c22b0 : ((t250.length : Int) == 3) = true := beq_iff_eq.mpr c22
          have c22b1 : ((t250.length : Int) != 3) = false := bne_eq_false_iff_eq.mpr c22
          clear c22
          by_cases c23 : 0 < (t250.length : Int)
          · rw [if_pos c23] at H
            have c23b0 : decide (0 < (t250.length : Int)) = true := decide_eq_true c23
            have c23b1 : decide (0 < t250.length) = true := decide_eq_true (by omega)
            clear c23
            by_cases c24 : (rd t250 0) = 1
            · rw [if_pos c24] at H
              have c24b0 : ((rd t250 0) == 1) = true := beq_iff_eq.mpr c24
              have c24b1 : ((rd t250 0) != 1) = false := bne_eq_false_iff_eq.mpr c24
              clear c24
              by_cases c25 : 1 < (t250.length : Int)
              · rw [if_pos c25] at H
                have c25b0 : decide (1 < (t250.length : Int)) = true := decide_eq_true c25
                have c25b1 : decide (1 < t250.length) = true := decide_eq_true (by omega)
                clear c25
                by_cases c26 : (rd t250 1) = 2
                · rw [if_pos c26] at H
                  have c26b0 : ((rd t250 1) == 2) = true := beq_iff_eq.mpr c26
                  have c26b1 : ((rd t250 1) != 2) = false := bne_eq_false_iff_eq.mpr c26
                  clear c26
                  by_cases c27 : 2 < (t250.length : Int)
                  · rw [if_pos c27] at H
                    have c27b0 : decide (2 < (t250.length : Int)) = true := decide_eq_true c27
                    have c27b1 : decide (2 < t250.length) = true := decide_eq_true (by omega)
                    clear c27
                    by_cases c28 : (rd t250 2) = 0
                    · rw [if_pos c28] at H
                      have c28b0 : ((rd t250 2) == 0) = true := beq_iff_eq.mpr c28
                      have c28b1 : ((rd t250 2) != 0) = false := bne_eq_false_iff_eq.mpr c28
                      clear c28
                      replace H := Option.bind_eq_some_iff.mp H
                      obtain ⟨t256, A290, H⟩ := H
                      replace H : (some t256) = some r := H
                      have A29 := Aside0.mk A290
                      clear A290
                      obtain rfl := Option.some.inj H
                      go_wp2_with (first | ((with_reducible refine gate_callee (f := 18) rfl ?_); refine goesL_ (some 32) rfl rfl Tryz.func18 (by kernel_rfl) rfl #[.string (⟨#[98]⟩ : ByteArray)] rfl (by (try simp only [List.map_toArray, List.map_cons, List.map_nil]); first | done | rfl | (simp only [List.length_drop, List.length_take]; rfl)) ?_; (with_reducible refine (abacuslaw18_str.calls (⟨#[98]⟩ : ByteArray) t238 t239 t240 _ A18.out).mono ?_); rintro e w30 ⟨rfl, hb⟩; refine ⟨_, rfl, ?_⟩; have n0_ := Aside0.mk (below_step (by repeat (first | (with_reducible first | exact HB.out | apply below_alloc | apply pw_below_drewN | apply below_drew1) | exact HB.out)) hb); clear HB; have HB := n0_; clear n0_; (try clear hb); (try clear hb2); (try clear hk); (try clear hi)) | ((with_reducible refine gate_callee (f := 20) rfl ?_); refine goesL_ (some 33) rfl rfl Tryz.func20 (by kernel_rfl) rfl #[.int .u64 4607182418800017408] rfl (by (try simp only [List.map_toArray, List.map_cons, List.map_nil]); first | done | rfl | (simp only [List.length_drop, List.length_take]; rfl)) ?_; (with_reducible refine (abacuslaw18_num.calls 4607182418800017408 t233 t234 t235 _ A19.out).mono ?_); rintro e w31 ⟨rfl, hb⟩; refine ⟨_, rfl, ?_⟩; have n0_ := Aside0.mk (below_step (by repeat (first | (with_reducible first | exact HB.out | apply below_alloc | apply pw_below_drewN | apply below_drew1) | exact HB.out)) hb); clear HB; have HB := n0_; clear n0_; (try clear hb); (try clear hb2); (try clear hk); (try clear hi)) | ((with_reducible refine gate_callee (f := 18) rfl ?_); refine goesL_ (some 34) rfl rfl Tryz.func18 (by kernel_rfl) rfl #[.string (⟨#[97]⟩ : ByteArray)] rfl (by (try simp only [List.map_toArray, List.map_cons, List.map_nil]); first | done | rfl | (simp only [List.length_drop, List.length_take]; rfl)) ?_; (with_reducible refine (abacuslaw18_str.calls (⟨#[97]⟩ : ByteArray) t244 t245 t246 _ A20.out).mono ?_); rintro e w32 ⟨rfl, hb⟩; refine ⟨_, rfl, ?_⟩; have n0_ := Aside0.mk (below_step (by repeat (first | (with_reducible first | exact HB.out | apply below_alloc | apply pw_below_drewN | apply below_drew1) | exact HB.out)) hb); clear HB; have HB := n0_; clear n0_; (try clear hb); (try clear hb2); (try clear hk); (try clear hi)) | ((with_reducible refine gate_dst (N := 35) rfl ?_); refine Kd.R_lit k29 _ 29 ?hg (N := 35) ?hd (xs := ([(⟨t238, t239, t240⟩ : S29), (⟨t233, t234, t235⟩ : S29), (⟨t244, t245, t246⟩ : S29)] : List (S29))) (inner := [.int .i64 t238, .int .u64 t239, .string t240, .int .i64 t233, .int .u64 t234, .string t235, .int .i64 t244, .int .u64 t245, .string t246]) (ok := fun _ => True) (okp := fun _ => True) ?hr ?hp (fun _ hk => hk) trivial (Below.refl _ _) (Nat.le_refl _) (by simp) ?_; (case hd => rfl); (case hg => rfl); (case hr => first | (go_simp; done) | (go_simp; rfl)); (case hp => exact (Reps.c3 (show Kd.M k29 _ _ _ (⟨t238, t239, t240⟩ : S29) [.int .i64 t238, .int .u64 t239, .string t240] from (k29_mkM _ _ _ (⟨t238, t239, t240⟩ : S29) )) (Reps.c3 (show Kd.M k29 _ _ _ (⟨t233, t234, t235⟩ : S29) [.int .i64 t233, .int .u64 t234, .string t235] from (k29_mkM _ _ _ (⟨t233, t234, t235⟩ : S29) )) (Reps.c3 (show Kd.M k29 _ _ _ (⟨t244, t245, t246⟩ : S29) [.int .i64 t244, .int .u64 t245, .string t246] from (k29_mkM _ _ _ (⟨t244, t245, t246⟩ : S29) )) (Reps.none _ _))))); intro v248 w33 ho34 hb hg_ hnew_; clear hg_ hnew_; (first | rw [← Ny247.out] at ho34 | (simp only [Int.reduceToNat] at ho34; rw [← Ny247.out] at ho34)); have n0_ := Aside0.mk (Kd.R_lower ho34 (below_size (by repeat (first | (with_reducible first | exact HB.out | apply below_alloc | apply pw_below_drewN | apply below_drew1) | exact HB.out)))); have n1_ := Aside0.mk (below_step (by repeat (first | (with_reducible first | exact HB.out | apply below_alloc | apply pw_below_drewN | apply below_drew1) | exact HB.out)) hb); clear HB; have HO249 := n0_; have HB := n1_; clear n0_ n1_; clear hb ho34; obtain ⟨Ao35, co35, eo35⟩ := Kd.R_slice HO249.out; subst eo35) | ((with_reducible refine gate_callee (f := 23) rfl ?_); refine goesL_ (some 36) rfl rfl Tryz.func23 (by kernel_rfl) rfl #[.slice Ao35 y247.length co35] rfl (by (try simp only [List.map_toArray, List.map_cons, List.map_nil]); first | done | rfl | (simp only [List.length_drop, List.length_take]; rfl)) ?_; (with_reducible refine (relate_Sort.calls _ _ y247 t250 _ ?side1 ?side2 A21.out).mono ?_); (case side1 => repeat (first | exact (Kd.R_reads' HO249.out).2.2 | (with_reducible refine Kd.C_alloc ?_ _) | (with_reducible refine Kd.C_drewN ?_ _) | (with_reducible refine Kd.C_drew ?_))); (case side2 => exact (Kd.R_reads' HO249.out).2.1); rintro e w36 ⟨v251, rfl, ho0, hb⟩; refine ⟨_, rfl, ?_⟩; have n0_ := Aside0.mk (Kd.R_below (by (with_reducible repeat (first | apply Kd.R_alloc | apply Kd.R_drewN | apply Kd.R_drew)); exact HO249.out) hb); have n1_ := Aside0.mk (Kd.R_lower ho0 (below_size (by repeat (first | (with_reducible first | exact HB.out | apply below_alloc | apply pw_below_drewN | apply below_drew1) | exact HB.out)))); have n2_ := Aside0.mk (below_step (by repeat (first | (with_reducible first | exact HB.out | apply below_alloc | apply pw_below_drewN | apply below_drew1) | exact HB.out)) hb); clear HO249; clear HB; have HO249 := n0_; have HO252 := n1_; have HB := n2_; clear n0_ n1_ n2_; (try clear hb); (try clear hb2); (try clear hk); (try clear hi); (try clear ho0); obtain ⟨Ao37, co37, eo37⟩ := Kd.R_slice HO252.out; subst eo37; have p253 : 0 ≤ (0 : Int) := (by omega); have q253 : 0 < (t250.length : Int) := of_decide_eq_true (by first | (with_reducible assumption) | assumption); obtain ⟨ad253, e253, hx253_0⟩ := Kd.at_int (Kd.R_reads' HO252.out).2.2 0 p253 q253; cases e253; have qi253 : (0 < t250.length) = True := eq_true (by omega); (try rw [show ((0 : Int)).toNat = 0 from rfl] at hx253_0); (try rw [Addr.add_zero'] at hx253_0); replace p253 := eq_true p253; replace q253 := eq_true q253; have p254 : 0 ≤ (1 : Int) := (by omega); have q254 : 1 < (t250.length : Int) := of_decide_eq_true (by first | (with_reducible assumption) | assumption); obtain ⟨ad254, e254, hx254_0⟩ := Kd.at_int (Kd.R_reads' HO252.out).2.2 1 p254 q254; obtain rfl : ad253 = ad254 := (by injection e254); (try simp only [show (1 : Int).toNat = 1 from rfl, Nat.reduceMul, Nat.reduceEqDiff, Go.Addr.add, ↓reduceIte] at hx254_0); have qi254 : (1 < t250.length) = True := eq_true (by omega); (try rw [show ((1 : Int)).toNat = 1 from rfl] at hx254_0); replace p254 := eq_true p254; replace q254 := eq_true q254; have p255 : 0 ≤ (2 : Int) := (by omega); have q255 : 2 < (t250.length : Int) := of_decide_eq_true (by first | (with_reducible assumption) | assumption); obtain ⟨ad255, e255, hx255_0⟩ := Kd.at_int (Kd.R_reads' HO252.out).2.2 2 p255 q255; obtain rfl : ad253 = ad255 := (by injection e255); (try simp only [show (2 : Int).toNat = 2 from rfl, Nat.reduceMul, Nat.reduceEqDiff, Go.Addr.add, ↓reduceIte] at hx255_0); have qi255 : (2 < t250.length) = True := eq_true (by omega); (try rw [show ((2 : Int)).toNat = 2 from rfl] at hx255_0); replace p255 := eq_true p255; replace q255 := eq_true q255) | (go_at_call 58; (with_reducible refine (abacuslaw18_queued.calls  t256 _ A29.out).mono ?_); rintro e w38 ⟨rfl, hb⟩; have n0_ := Aside0.mk (Kd.R_below (by (with_reducible repeat (first | apply Kd.R_alloc | apply Kd.R_drewN | apply Kd.R_drew)); exact HO249.out) hb); have n1_ := Aside0.mk (Kd.R_below (by (with_reducible repeat (first | apply Kd.R_alloc | apply Kd.R_drewN | apply Kd.R_drew)); exact HO252.out) hb); have n2_ := Aside0.mk (below_step (by repeat (first | (with_reducible first | exact HB.out | apply below_alloc | apply pw_below_drewN | apply below_drew1) | exact HB.out)) hb); clear HO249; clear HO252; clear HB; have HO249 := n0_; have HO252 := n1_; have HB := n2_; clear n0_ n1_ n2_; (try clear hb); (try clear hb2); (try clear hk); (try clear hi)))
                      go_ret
                      exact ⟨by first | rfl | (simp [errW_none, errW_some] <;> rfl) | (simp only [append_nothing]; done) | (simp only [append_nothing]; rfl) | (simp [*, errW_none, errW_some] <;> rfl), by repeat (first | (with_reducible first | exact HB.out | apply below_alloc | apply pw_below_drewN | apply below_drew1) | exact HB.out)⟩
                    · rw [if_neg c28] at H
                      have c28b0 : ((rd t250 2) == 0) = false := beq_eq_false_iff_ne.mpr c28
                      have c28b1 : ((rd t250 2) != 0) = true := bne_iff_ne.mpr c28
                      obtain rfl := Option.some.inj H
                      go_wp2_with (first | ((with_reducible refine gate_callee (f := 18) rfl ?_); refine goesL_ (some 32) rfl rfl Tryz.func18 (by kernel_rfl) rfl #[.string (⟨#[98]⟩ : ByteArray)] rfl (by (try simp only [List.map_toArray, List.map_cons, List.map_nil]); first | done | rfl | (simp only [List.length_drop, List.length_take]; rfl)) ?_; (with_reducible refine (abacuslaw18_str.calls (⟨#[98]⟩ : ByteArray) t238 t239 t240 _ A18.out).mono ?_); rintro e w39 ⟨rfl, hb⟩; refine ⟨_, rfl, ?_⟩; have n0_ := Aside0.mk (below_step (by repeat (first | (with_reducible first | exact HB.out | apply below_alloc | apply pw_below_drewN | apply below_drew1) | exact HB.out)) hb); clear HB; have HB := n0_; clear n0_; (try clear hb); (try clear hb2); (try clear hk); (try clear hi)) | ((with_reducible refine gate_callee (f := 20) rfl ?_); refine goesL_ (some 33) rfl rfl Tryz.func20 (by kernel_rfl) rfl #[.int .u64 4607182418800017408] rfl (by (try simp only [List.map_toArray, List.map_cons, List.map_nil]); first | done | rfl | (simp only [List.length_drop, List.length_take]; rfl)) ?_; (with_reducible refine (abacuslaw18_num.calls 4607182418800017408 t233 t234 t235 _ A19.out).mono ?_); rintro e w40 ⟨rfl, hb⟩; refine ⟨_, rfl, ?_⟩; have n0_ := Aside0.mk (below_step (by repeat (first | (with_reducible first | exact HB.out | apply below_alloc | apply pw_below_drewN | apply below_drew1) | exact HB.out)) hb); clear HB; have HB := n0_; clear n0_; (try clear hb); (try clear hb2); (try clear hk); (try clear hi)) | ((with_reducible refine gate_callee (f := 18) rfl ?_); refine goesL_ (some 34) rfl rfl Tryz.func18 (by kernel_rfl) rfl #[.string (⟨#[97]⟩ : ByteArray)] rfl (by (try simp only [List.map_toArray, List.map_cons, List.map_nil]); first | done | rfl | (simp only [List.length_drop, List.length_take]; rfl)) ?_; (with_reducible refine (abacuslaw18_str.calls (⟨#[97]⟩ : ByteArray) t244 t245 t246 _ A20.out).mono ?_); rintro e w41 ⟨rfl, hb⟩; refine ⟨_, rfl, ?_⟩; have n0_ := Aside0.mk (below_step (by repeat (first | (with_reducible first | exact HB.out | apply below_alloc | apply pw_below_drewN | apply below_drew1) | exact HB.out)) hb); clear HB; have HB := n0_; clear n0_; (try clear hb); (try clear hb2); (try clear hk); (try clear hi)) | ((with_reducible refine gate_dst (N := 35) rfl ?_); refine Kd.R_lit k29 _ 29 ?hg (N := 35) ?hd (xs := ([(⟨t238, t239, t240⟩ : S29), (⟨t233, t234, t235⟩ : S29), (⟨t244, t245, t246⟩ : S29)] : List (S29))) (inner := [.int .i64 t238, .int .u64 t239, .string t240, .int .i64 t233, .int .u64 t234, .string t235, .int .i64 t244, .int .u64 t245, .string t246]) (ok := fun _ => True) (okp := fun _ => True) ?hr ?hp (fun _ hk => hk) trivial (Below.refl _ _) (Nat.le_refl _) (by simp) ?_; (case hd => rfl); (case hg => rfl); (case hr => first | (go_simp; done) | (go_simp; rfl)); (case hp => exact (Reps.c3 (show Kd.M k29 _ _ _ (⟨t238, t239, t240⟩ : S29) [.int .i64 t238, .int .u64 t239, .string t240] from (k29_mkM _ _ _ (⟨t238, t239, t240⟩ : S29) )) (Reps.c3 (show Kd.M k29 _ _ _ (⟨t233, t234, t235⟩ : S29) [.int .i64 t233, .int .u64 t234, .string t235] from (k29_mkM _ _ _ (⟨t233, t234, t235⟩ : S29) )) (Reps.c3 (show Kd.M k29 _ _ _ (⟨t244, t245, t246⟩ : S29) [.int .i64 t244, .int .u64 t245, .string t246] from (k29_mkM _ _ _ (⟨t244, t245, t246⟩ : S29) )) (Reps.none _ _))))); intro v248 w42 ho43 hb hg_ hnew_; clear hg_ hnew_; (first | rw [← Ny247.out] at ho43 | (simp only [Int.reduceToNat] at ho43; rw [← Ny247.out] at ho43)); have n0_ := Aside0.mk (Kd.R_lower ho43 (below_size (by repeat (first | (with_reducible first | exact HB.out | apply below_alloc | apply pw_below_drewN | apply below_drew1) | exact HB.out)))); have n1_ := Aside0.mk (below_step (by repeat (first | (with_reducible first | exact HB.out | apply below_alloc | apply pw_below_drewN | apply below_drew1) | exact HB.out)) hb); clear HB; have HO249 := n0_; have HB := n1_; clear n0_ n1_; clear hb ho43; obtain ⟨Ao44, co44, eo44⟩ := Kd.R_slice HO249.out; subst eo44) | ((with_reducible refine gate_callee (f := 23) rfl ?_); refine goesL_ (some 36) rfl rfl Tryz.func23 (by kernel_rfl) rfl #[.slice Ao44 y247.length co44] rfl (by (try simp only [List.map_toArray, List.map_cons, List.map_nil]); first | done | rfl | (simp only [List.length_drop, List.length_take]; rfl)) ?_; (with_reducible refine (relate_Sort.calls _ _ y247 t250 _ ?side1 ?side2 A21.out).mono ?_); (case side1 => repeat (first | exact (Kd.R_reads' HO249.out).2.2 | (with_reducible refine Kd.C_alloc ?_ _) | (with_reducible refine Kd.C_drewN ?_ _) | (with_reducible refine Kd.C_drew ?_))); (case side2 => exact (Kd.R_reads' HO249.out).2.1); rintro e w45 ⟨v251, rfl, ho0, hb⟩; refine ⟨_, rfl, ?_⟩; have n0_ := Aside0.mk (Kd.R_below (by (with_reducible repeat (first | apply Kd.R_alloc | apply Kd.R_drewN | apply Kd.R_drew)); exact HO249.out) hb); have n1_ := Aside0.mk (Kd.R_lower ho0 (below_size (by repeat (first | (with_reducible first | exact HB.out | apply below_alloc | apply pw_below_drewN | apply below_drew1) | exact HB.out)))); have n2_ := Aside0.mk (below_step (by repeat (first | (with_reducible first | exact HB.out | apply below_alloc | apply pw_below_drewN | apply below_drew1) | exact HB.out)) hb); clear HO249; clear HB; have HO249 := n0_; have HO252 := n1_; have HB := n2_; clear n0_ n1_ n2_; (try clear hb); (try clear hb2); (try clear hk); (try clear hi); (try clear ho0); obtain ⟨Ao46, co46, eo46⟩ := Kd.R_slice HO252.out; subst eo46; have p253 : 0 ≤ (0 : Int) := (by omega); have q253 : 0 < (t250.length : Int) := of_decide_eq_true (by first | (with_reducible assumption) | assumption); obtain ⟨ad253, e253, hx253_0⟩ := Kd.at_int (Kd.R_reads' HO252.out).2.2 0 p253 q253; cases e253; have qi253 : (0 < t250.length) = True := eq_true (by omega); (try rw [show ((0 : Int)).toNat = 0 from rfl] at hx253_0); (try rw [Addr.add_zero'] at hx253_0); replace p253 := eq_true p253; replace q253 := eq_true q253; have p254 : 0 ≤ (1 : Int) := (by omega); have q254 : 1 < (t250.length : Int) := of_decide_eq_true (by first | (with_reducible assumption) | assumption); obtain ⟨ad254, e254, hx254_0⟩ := Kd.at_int (Kd.R_reads' HO252.out).2.2 1 p254 q254; obtain rfl : ad253 = ad254 := (by injection e254); (try simp only [show (1 : Int).toNat = 1 from rfl, Nat.reduceMul, Nat.reduceEqDiff, Go.Addr.add, ↓reduceIte] at hx254_0); have qi254 : (1 < t250.length) = True := eq_true (by omega); (try rw [show ((1 : Int)).toNat = 1 from rfl] at hx254_0); replace p254 := eq_true p254; replace q254 := eq_true q254; have p255 : 0 ≤ (2 : Int) := (by omega); have q255 : 2 < (t250.length : Int) := of_decide_eq_true (by first | (with_reducible assumption) | assumption); obtain ⟨ad255, e255, hx255_0⟩ := Kd.at_int (Kd.R_reads' HO252.out).2.2 2 p255 q255; obtain rfl : ad253 = ad255 := (by injection e255); (try simp only [show (2 : Int).toNat = 2 from rfl, Nat.reduceMul, Nat.reduceEqDiff, Go.Addr.add, ↓reduceIte] at hx255_0); have qi255 : (2 < t250.length) = True := eq_true (by omega); (try rw [show ((2 : Int)).toNat = 2 from rfl] at hx255_0); replace p255 := eq_true p255; replace q255 := eq_true q255))
                      go_ret
                      exact ⟨by first | rfl | (simp [errW_none, errW_some] <;> rfl) | (simp only [append_nothing]; done) | (simp only [append_nothing]; rfl) | (simp [*, errW_none, errW_some] <;> rfl), by repeat (first | (with_reducible first | exact HB.out | apply below_alloc | apply pw_below_drewN | apply below_drew1) | exact HB.out)⟩
                  · rw [if_neg c27] at H
                    exact absurd H (by simp)
                · rw [if_neg c26] at H
                  have c26b0 : ((rd t250 1) == 2) = false := beq_eq_false_iff_ne.mpr c26
                  have c26b1 : ((rd t250 1) != 2) = true := bne_iff_ne.mpr c26
                  obtain rfl := Option.some.inj H
                  go_wp2_with (first | ((with_reducible refine gate_callee (f := 18) rfl ?_); refine goesL_ (some 32) rfl rfl Tryz.func18 (by kernel_rfl) rfl #[.string (⟨#[98]⟩ : ByteArray)] rfl (by (try simp only [List.map_toArray, List.map_cons, List.map_nil]); first | done | rfl | (simp only [List.length_drop, List.length_take]; rfl)) ?_; (with_reducible refine (abacuslaw18_str.calls (⟨#[98]⟩ : ByteArray) t238 t239 t240 _ A18.out).mono ?_); rintro e w47 ⟨rfl, hb⟩; refine ⟨_, rfl, ?_⟩; have n0_ := Aside0.mk (below_step (by repeat (first | (with_reducible first | exact HB.out | apply below_alloc | apply pw_below_drewN | apply below_drew1) | exact HB.out)) hb); clear HB; have HB := n0_; clear n0_; (try clear hb); (try clear hb2); (try clear hk); (try clear hi)) | ((with_reducible refine gate_callee (f := 20) rfl ?_); refine goesL_ (some 33) rfl rfl Tryz.func20 (by kernel_rfl) rfl #[.int .u64 4607182418800017408] rfl (by (try simp only [List.map_toArray, List.map_cons, List.map_nil]); first | done | rfl | (simp only [List.length_drop, List.length_take]; rfl)) ?_; (with_reducible refine (abacuslaw18_num.calls 4607182418800017408 t233 t234 t235 _ A19.out).mono ?_); rintro e w48 ⟨rfl, hb⟩; refine ⟨_, rfl, ?_⟩; have n0_ := Aside0.mk (below_step (by repeat (first | (with_reducible first | exact HB.out | apply below_alloc | apply pw_below_drewN | apply below_drew1) | exact HB.out)) hb); clear HB; have HB := n0_; clear n0_; (try clear hb); (try clear hb2); (try clear hk); (try clear hi)) | ((with_reducible refine gate_callee (f := 18) rfl ?_); refine goesL_ (some 34) rfl rfl Tryz.func18 (by kernel_rfl) rfl #[.string (⟨#[97]⟩ : ByteArray)] rfl (by (try simp only [List.map_toArray, List.map_cons, List.map_nil]); first | done | rfl | (simp only [List.length_drop, List.length_take]; rfl)) ?_; (with_reducible refine (abacuslaw18_str.calls (⟨#[97]⟩ : ByteArray) t244 t245 t246 _ A20.out).mono ?_); rintro e w49 ⟨rfl, hb⟩; refine ⟨_, rfl, ?_⟩; have n0_ := Aside0.mk (below_step (by repeat (first | (with_reducible first | exact HB.out | apply below_alloc | apply pw_below_drewN | apply below_drew1) | exact HB.out)) hb); clear HB; have HB := n0_; clear n0_; (try clear hb); (try clear hb2); (try clear hk); (try clear hi)) | ((with_reducible refine gate_dst (N := 35) rfl ?_); refine Kd.R_lit k29 _ 29 ?hg (N := 35) ?hd (xs := ([(⟨t238, t239, t240⟩ : S29), (⟨t233, t234, t235⟩ : S29), (⟨t244, t245, t246⟩ : S29)] : List (S29))) (inner := [.int .i64 t238, .int .u64 t239, .string t240, .int .i64 t233, .int .u64 t234, .string t235, .int .i64 t244, .int .u64 t245, .string t246]) (ok := fun _ => True) (okp := fun _ => True) ?hr ?hp (fun _ hk => hk) trivial (Below.refl _ _) (Nat.le_refl _) (by simp) ?_; (case hd => rfl); (case hg => rfl); (case hr => first | (go_simp; done) | (go_simp; rfl)); (case hp => exact (Reps.c3 (show Kd.M k29 _ _ _ (⟨t238, t239, t240⟩ : S29) [.int .i64 t238, .int .u64 t239, .string t240] from (k29_mkM _ _ _ (⟨t238, t239, t240⟩ : S29) )) (Reps.c3 (show Kd.M k29 _ _ _ (⟨t233, t234, t235⟩ : S29) [.int .i64 t233, .int .u64 t234, .string t235] from (k29_mkM _ _ _ (⟨t233, t234, t235⟩ : S29) )) (Reps.c3 (show Kd.M k29 _ _ _ (⟨t244, t245, t246⟩ : S29) [.int .i64 t244, .int .u64 t245, .string t246] from (k29_mkM _ _ _ (⟨t244, t245, t246⟩ : S29) )) (Reps.none _ _))))); intro v248 w50 ho51 hb hg_ hnew_; clear hg_ hnew_; (first | rw [← Ny247.out] at ho51 | (simp only [Int.reduceToNat] at ho51; rw [← Ny247.out] at ho51)); have n0_ := Aside0.mk (Kd.R_lower ho51 (below_size (by repeat (first | (with_reducible first | exact HB.out | apply below_alloc | apply pw_below_drewN | apply below_drew1) | exact HB.out)))); have n1_ := Aside0.mk (below_step (by repeat (first | (with_reducible first | exact HB.out | apply below_alloc | apply pw_below_drewN | apply below_drew1) | exact HB.out)) hb); clear HB; have HO249 := n0_; have HB := n1_; clear n0_ n1_; clear hb ho51; obtain ⟨Ao52, co52, eo52⟩ := Kd.R_slice HO249.out; subst eo52) | ((with_reducible refine gate_callee (f := 23) rfl ?_); refine goesL_ (some 36) rfl rfl Tryz.func23 (by kernel_rfl) rfl #[.slice Ao52 y247.length co52] rfl (by (try simp only [List.map_toArray, List.map_cons, List.map_nil]); first | done | rfl | (simp only [List.length_drop, List.length_take]; rfl)) ?_; (with_reducible refine (relate_Sort.calls _ _ y247 t250 _ ?side1 ?side2 A21.out).mono ?_); (case side1 => repeat (first | exact (Kd.R_reads' HO249.out).2.2 | (with_reducible refine Kd.C_alloc ?_ _) | (with_reducible refine Kd.C_drewN ?_ _) | (with_reducible refine Kd.C_drew ?_))); (case side2 => exact (Kd.R_reads' HO249.out).2.1); rintro e w53 ⟨v251, rfl, ho0, hb⟩; refine ⟨_, rfl, ?_⟩; have n0_ := Aside0.mk (Kd.R_below (by (with_reducible repeat (first | apply Kd.R_alloc | apply Kd.R_drewN | apply Kd.R_drew)); exact HO249.out) hb); have n1_ := Aside0.mk (Kd.R_lower ho0 (below_size (by repeat (first | (with_reducible first | exact HB.out | apply below_alloc | apply pw_below_drewN | apply below_drew1) | exact HB.out)))); have n2_ := Aside0.mk (below_step (by repeat (first | (with_reducible first | exact HB.out | apply below_alloc | apply pw_below_drewN | apply below_drew1) | exact HB.out)) hb); clear HO249; clear HB; have HO249 := n0_; have HO252 := n1_; have HB := n2_; clear n0_ n1_ n2_; (try clear hb); (try clear hb2); (try clear hk); (try clear hi); (try clear ho0); obtain ⟨Ao54, co54, eo54⟩ := Kd.R_slice HO252.out; subst eo54; have p253 : 0 ≤ (0 : Int) := (by omega); have q253 : 0 < (t250.length : Int) := of_decide_eq_true (by first | (with_reducible assumption) | assumption); obtain ⟨ad253, e253, hx253_0⟩ := Kd.at_int (Kd.R_reads' HO252.out).2.2 0 p253 q253; cases e253; have qi253 : (0 < t250.length) = True := eq_true (by omega); (try rw [show ((0 : Int)).toNat = 0 from rfl] at hx253_0); (try rw [Addr.add_zero'] at hx253_0); replace p253 := eq_true p253; replace q253 := eq_true q253; have p254 : 0 ≤ (1 : Int) := (by omega); have q254 : 1 < (t250.length : Int) := of_decide_eq_true (by first | (with_reducible assumption) | assumption); obtain ⟨ad254, e254, hx254_0⟩ := Kd.at_int (Kd.R_reads' HO252.out).2.2 1 p254 q254; obtain rfl : ad253 = ad254 := (by injection e254); (try simp only [show (1 : Int).toNat = 1 from rfl, Nat.reduceMul, Nat.reduceEqDiff, Go.Addr.add, ↓reduceIte] at hx254_0); have qi254 : (1 < t250.length) = True := eq_true (by omega); (try rw [show ((1 : Int)).toNat = 1 from rfl] at hx254_0); replace p254 := eq_true p254; replace q254 := eq_true q254))
                  go_ret
                  exact ⟨by first | rfl | (simp [errW_none, errW_some] <;> rfl) | (simp only [append_nothing]; done) | (simp only [append_nothing]; rfl) | (simp [*, errW_none, errW_some] <;> rfl), by repeat (first | (with_reducible first | exact HB.out | apply below_alloc | apply pw_below_drewN | apply below_drew1) | exact HB.out)⟩
              · rw [if_neg c25] at H
                exact absurd H (by simp)
            · rw [if_neg c24] at H
              have c24b0 : ((rd t250 0) == 1) = false := beq_eq_false_iff_ne.mpr c24
              have c24b1 : ((rd t250 0) != 1) = true := bne_iff_ne.mpr c24
              obtain rfl := Option.some.inj H
              go_wp2_with (first | ((with_reducible refine gate_callee (f := 18) rfl ?_); refine goesL_ (some 32) rfl rfl Tryz.func18 (by kernel_rfl) rfl #[.string (⟨#[98]⟩ : ByteArray)] rfl (by (try simp only [List.map_toArray, List.map_cons, List.map_nil]); first | done | rfl | (simp only [List.length_drop, List.length_take]; rfl)) ?_; (with_reducible refine (abacuslaw18_str.calls (⟨#[98]⟩ : ByteArray) t238 t239 t240 _ A18.out).mono ?_); rintro e w55 ⟨rfl, hb⟩; refine ⟨_, rfl, ?_⟩; have n0_ := Aside0.mk (below_step (by repeat (first | (with_reducible first | exact HB.out | apply below_alloc | apply pw_below_drewN | apply below_drew1) | exact HB.out)) hb); clear HB; have HB := n0_; clear n0_; (try clear hb); (try clear hb2); (try clear hk); (try clear hi)) | ((with_reducible refine gate_callee (f := 20) rfl ?_); refine goesL_ (some 33) rfl rfl Tryz.func20 (by kernel_rfl) rfl #[.int .u64 4607182418800017408] rfl (by (try simp only [List.map_toArray, List.map_cons, List.map_nil]); first | done | rfl | (simp only [List.length_drop, List.length_take]; rfl)) ?_; (with_reducible refine (abacuslaw18_num.calls 4607182418800017408 t233 t234 t235 _ A19.out).mono ?_); rintro e w56 ⟨rfl, hb⟩; refine ⟨_, rfl, ?_⟩; have n0_ := Aside0.mk (below_step (by repeat (first | (with_reducible first | exact HB.out | apply below_alloc | apply pw_below_drewN | apply below_drew1) | exact HB.out)) hb); clear HB; have HB := n0_; clear n0_; (try clear hb); (try clear hb2); (try clear hk); (try clear hi)) | ((with_reducible refine gate_callee (f := 18) rfl ?_); refine goesL_ (some 34) rfl rfl Tryz.func18 (by kernel_rfl) rfl #[.string (⟨#[97]⟩ : ByteArray)] rfl (by (try simp only [List.map_toArray, List.map_cons, List.map_nil]); first | done | rfl | (simp only [List.length_drop, List.length_take]; rfl)) ?_; (with_reducible refine (abacuslaw18_str.calls (⟨#[97]⟩ : ByteArray) t244 t245 t246 _ A20.out).mono ?_); rintro e w57 ⟨rfl, hb⟩; refine ⟨_, rfl, ?_⟩; have n0_ := Aside0.mk (below_step (by repeat (first | (with_reducible first | exact HB.out | apply below_alloc | apply pw_below_drewN | apply below_drew1) | exact HB.out)) hb); clear HB; have HB := n0_; clear n0_; (try clear hb); (try clear hb2); (try clear hk); (try clear hi)) | ((with_reducible refine gate_dst (N := 35) rfl ?_); refine Kd.R_lit k29 _ 29 ?hg (N := 35) ?hd (xs := ([(⟨t238, t239, t240⟩ : S29), (⟨t233, t234, t235⟩ : S29), (⟨t244, t245, t246⟩ : S29)] : List (S29))) (inner := [.int .i64 t238, .int .u64 t239, .string t240, .int .i64 t233, .int .u64 t234, .string t235, .int .i64 t244, .int .u64 t245, .string t246]) (ok := fun _ => True) (okp := fun _ => True) ?hr ?hp (fun _ hk => hk) trivial (Below.refl _ _) (Nat.le_refl _) (by simp) ?_; (case hd => rfl); (case hg => rfl); (case hr => first | (go_simp; done) | (go_simp; rfl)); (case hp => exact (Reps.c3 (show Kd.M k29 _ _ _ (⟨t238, t239, t240⟩ : S29) [.int .i64 t238, .int .u64 t239, .string t240] from (k29_mkM _ _ _ (⟨t238, t239, t240⟩ : S29) )) (Reps.c3 (show Kd.M k29 _ _ _ (⟨t233, t234, t235⟩ : S29) [.int .i64 t233, .int .u64 t234, .string t235] from (k29_mkM _ _ _ (⟨t233, t234, t235⟩ : S29) )) (Reps.c3 (show Kd.M k29 _ _ _ (⟨t244, t245, t246⟩ : S29) [.int .i64 t244, .int .u64 t245, .string t246] from (k29_mkM _ _ _ (⟨t244, t245, t246⟩ : S29) )) (Reps.none _ _))))); intro v248 w58 ho59 hb hg_ hnew_; clear hg_ hnew_; (first | rw [← Ny247.out] at ho59 | (simp only [Int.reduceToNat] at ho59; rw [← Ny247.out] at ho59)); have n0_ := Aside0.mk (Kd.R_lower ho59 (below_size (by repeat (first | (with_reducible first | exact HB.out | apply below_alloc | apply pw_below_drewN | apply below_drew1) | exact HB.out)))); have n1_ := Aside0.mk (below_step (by repeat (first | (with_reducible first | exact HB.out | apply below_alloc | apply pw_below_drewN | apply below_drew1) | exact HB.out)) hb); clear HB; have HO249 := n0_; have HB := n1_; clear n0_ n1_; clear hb ho59; obtain ⟨Ao60, co60, eo60⟩ := Kd.R_slice HO249.out; subst eo60) | ((with_reducible refine gate_callee (f := 23) rfl ?_); refine goesL_ (some 36) rfl rfl Tryz.func23 (by kernel_rfl) rfl #[.slice Ao60 y247.length co60] rfl (by (try simp only [List.map_toArray, List.map_cons, List.map_nil]); first | done | rfl | (simp only [List.length_drop, List.length_take]; rfl)) ?_; (with_reducible refine (relate_Sort.calls _ _ y247 t250 _ ?side1 ?side2 A21.out).mono ?_); (case side1 => repeat (first | exact (Kd.R_reads' HO249.out).2.2 | (with_reducible refine Kd.C_alloc ?_ _) | (with_reducible refine Kd.C_drewN ?_ _) | (with_reducible refine Kd.C_drew ?_))); (case side2 => exact (Kd.R_reads' HO249.out).2.1); rintro e w61 ⟨v251, rfl, ho0, hb⟩; refine ⟨_, rfl, ?_⟩; have n0_ := Aside0.mk (Kd.R_below (by (with_reducible repeat (first | apply Kd.R_alloc | apply Kd.R_drewN | apply Kd.R_drew)); exact HO249.out) hb); have n1_ := Aside0.mk (Kd.R_lower ho0 (below_size (by repeat (first | (with_reducible first | exact HB.out | apply below_alloc | apply pw_below_drewN | apply below_drew1) | exact HB.out)))); have n2_ := Aside0.mk (below_step (by repeat (first | (with_reducible first | exact HB.out | apply below_alloc | apply pw_below_drewN | apply below_drew1) | exact HB.out)) hb); clear HO249; clear HB; have HO249 := n0_; have HO252 := n1_; have HB := n2_; clear n0_ n1_ n2_; (try clear hb); (try clear hb2); (try clear hk); (try clear hi); (try clear ho0); obtain ⟨Ao62, co62, eo62⟩ := Kd.R_slice HO252.out; subst eo62; have p253 : 0 ≤ (0 : Int) := (by omega); have q253 : 0 < (t250.length : Int) := of_decide_eq_true (by first | (with_reducible assumption) | assumption); obtain ⟨ad253, e253, hx253_0⟩ := Kd.at_int (Kd.R_reads' HO252.out).2.2 0 p253 q253; cases e253; have qi253 : (0 < t250.length) = True := eq_true (by omega); (try rw [show ((0 : Int)).toNat = 0 from rfl] at hx253_0); (try rw [Addr.add_zero'] at hx253_0); replace p253 := eq_true p253; replace q253 := eq_true q253))
              go_ret
              exact ⟨by first | rfl | (simp [errW_none, errW_some] <;> rfl) | (simp only [append_nothing]; done) | (simp only [append_nothing]; rfl) | (simp [*, errW_none, errW_some] <;> rfl), by repeat (first | (with_reducible first | exact HB.out | apply below_alloc | apply pw_below_drewN | apply below_drew1) | exact HB.out)⟩
          · rw [if_neg c23] at H
            exact absurd H (by simp)
        · rw [if_neg c22] at H
          have c22b0 : ((t250.length : Int) == 3) = false := beq_eq_false_iff_ne.mpr c22
          have c22b1 : ((t250.length : Int) != 3) = true := bne_iff_ne.mpr c22
          obtain rfl := Option.some.inj H
          go_wp2_with (first | ((with_reducible refine gate_callee (f := 18) rfl ?_); refine goesL_ (some 32) rfl rfl Tryz.func18 (by kernel_rfl) rfl #[.string (⟨#[98]⟩ : ByteArray)] rfl (by (try simp only [List.map_toArray, List.map_cons, List.map_nil]); first | done | rfl | (simp only [List.length_drop, List.length_take]; rfl)) ?_; (with_reducible refine (abacuslaw18_str.calls (⟨#[98]⟩ : ByteArray) t238 t239 t240 _ A18.out).mono ?_); rintro e w63 ⟨rfl, hb⟩; refine ⟨_, rfl, ?_⟩; have n0_ := Aside0.mk (below_step (by repeat (first | (with_reducible first | exact HB.out | apply below_alloc | apply pw_below_drewN | apply below_drew1) | exact HB.out)) hb); clear HB; have HB := n0_; clear n0_; (try clear hb); (try clear hb2); (try clear hk); (try clear hi)) | ((with_reducible refine gate_callee (f := 20) rfl ?_); refine goesL_ (some 33) rfl rfl Tryz.func20 (by kernel_rfl) rfl #[.int .u64 4607182418800017408] rfl (by (try simp only [List.map_toArray, List.map_cons, List.map_nil]); first | done | rfl | (simp only [List.length_drop, List.length_take]; rfl)) ?_; (with_reducible refine (abacuslaw18_num.calls 4607182418800017408 t233 t234 t235 _ A19.out).mono ?_); rintro e w64 ⟨rfl, hb⟩; refine ⟨_, rfl, ?_⟩; have n0_ := Aside0.mk (below_step (by repeat (first | (with_reducible first | exact HB.out | apply below_alloc | apply pw_below_drewN | apply below_drew1) | exact HB.out)) hb); clear HB; have HB := n0_; clear n0_; (try clear hb); (try clear hb2); (try clear hk); (try clear hi)) | ((with_reducible refine gate_callee (f := 18) rfl ?_); refine goesL_ (some 34) rfl rfl Tryz.func18 (by kernel_rfl) rfl #[.string (⟨#[97]⟩ : ByteArray)] rfl (by (try simp only [List.map_toArray, List.map_cons, List.map_nil]); first | done | rfl | (simp only [List.length_drop, List.length_take]; rfl)) ?_; (with_reducible refine (abacuslaw18_str.calls (⟨#[97]⟩ : ByteArray) t244 t245 t246 _ A20.out).mono ?_); rintro e w65 ⟨rfl, hb⟩; refine ⟨_, rfl, ?_⟩; have n0_ := Aside0.mk (below_step (by repeat (first | (with_reducible first | exact HB.out | apply below_alloc | apply pw_below_drewN | apply below_drew1) | exact HB.out)) hb); clear HB; have HB := n0_; clear n0_; (try clear hb); (try clear hb2); (try clear hk); (try clear hi)) | ((with_reducible refine gate_dst (N := 35) rfl ?_); refine Kd.R_lit k29 _ 29 ?hg (N := 35) ?hd (xs := ([(⟨t238, t239, t240⟩ : S29), (⟨t233, t234, t235⟩ : S29), (⟨t244, t245, t246⟩ : S29)] : List (S29))) (inner := [.int .i64 t238, .int .u64 t239, .string t240, .int .i64 t233, .int .u64 t234, .string t235, .int .i64 t244, .int .u64 t245, .string t246]) (ok := fun _ => True) (okp := fun _ => True) ?hr ?hp (fun _ hk => hk) trivial (Below.refl _ _) (Nat.le_refl _) (by simp) ?_; (case hd => rfl); (case hg => rfl); (case hr => first | (go_simp; done) | (go_simp; rfl)); (case hp => exact (Reps.c3 (show Kd.M k29 _ _ _ (⟨t238, t239, t240⟩ : S29) [.int .i64 t238, .int .u64 t239, .string t240] from (k29_mkM _ _ _ (⟨t238, t239, t240⟩ : S29) )) (Reps.c3 (show Kd.M k29 _ _ _ (⟨t233, t234, t235⟩ : S29) [.int .i64 t233, .int .u64 t234, .string t235] from (k29_mkM _ _ _ (⟨t233, t234, t235⟩ : S29) )) (Reps.c3 (show Kd.M k29 _ _ _ (⟨t244, t245, t246⟩ : S29) [.int .i64 t244, .int .u64 t245, .string t246] from (k29_mkM _ _ _ (⟨t244, t245, t246⟩ : S29) )) (Reps.none _ _))))); intro v248 w66 ho67 hb hg_ hnew_; clear hg_ hnew_; (first | rw [← Ny247.out] at ho67 | (simp only [Int.reduceToNat] at ho67; rw [← Ny247.out] at ho67)); have n0_ := Aside0.mk (Kd.R_lower ho67 (below_size (by repeat (first | (with_reducible first | exact HB.out | apply below_alloc | apply pw_below_drewN | apply below_drew1) | exact HB.out)))); have n1_ := Aside0.mk (below_step (by repeat (first | (with_reducible first | exact HB.out | apply below_alloc | apply pw_below_drewN | apply below_drew1) | exact HB.out)) hb); clear HB; have HO249 := n0_; have HB := n1_; clear n0_ n1_; clear hb ho67; obtain ⟨Ao68, co68, eo68⟩ := Kd.R_slice HO249.out; subst eo68) | ((with_reducible refine gate_callee (f := 23) rfl ?_); refine goesL_ (some 36) rfl rfl Tryz.func23 (by kernel_rfl) rfl #[.slice Ao68 y247.length co68] rfl (by (try simp only [List.map_toArray, List.map_cons, List.map_nil]); first | done | rfl | (simp only [List.length_drop, List.length_take]; rfl)) ?_; (with_reducible refine (relate_Sort.calls _ _ y247 t250 _ ?side1 ?side2 A21.out).mono ?_); (case side1 => repeat (first | exact (Kd.R_reads' HO249.out).2.2 | (with_reducible refine Kd.C_alloc ?_ _) | (with_reducible refine Kd.C_drewN ?_ _) | (with_reducible refine Kd.C_drew ?_))); (case side2 => exact (Kd.R_reads' HO249.out).2.1); rintro e w69 ⟨v251, rfl, ho0, hb⟩; refine ⟨_, rfl, ?_⟩; have n0_ := Aside0.mk (Kd.R_below (by (with_reducible repeat (first | apply Kd.R_alloc | apply Kd.R_drewN | apply Kd.R_drew)); exact HO249.out) hb); have n1_ := Aside0.mk (Kd.R_lower ho0 (below_size (by repeat (first | (with_reducible first | exact HB.out | apply below_alloc | apply pw_below_drewN | apply below_drew1) | exact HB.out)))); have n2_ := Aside0.mk (below_step (by repeat (first | (with_reducible first | exact HB.out | apply below_alloc | apply pw_below_drewN | apply below_drew1) | exact HB.out)) hb); clear HO249; clear HB; have HO249 := n0_; have HO252 := n1_; have HB := n2_; clear n0_ n1_ n2_; (try clear hb); (try clear hb2); (try clear hk); (try clear hi); (try clear ho0); obtain ⟨Ao70, co70, eo70⟩ := Kd.R_slice HO252.out; subst eo70))
          go_ret
          exact ⟨by first | rfl | (simp [errW_none, errW_some] <;> rfl) | (simp only [append_nothing]; done) | (simp only [append_nothing]; rfl) | (simp [*, errW_none, errW_some] <;> rfl), by repeat (first | (with_reducible first | exact HB.out | apply below_alloc | apply pw_below_drewN | apply below_drew1) | exact HB.out)⟩

/-! ### abacuslaw18_ahead: function 16 -/
mutual
def abacuslaw18_ahead.l0 : Nat → ByteArray → ByteArray → Int → Option (Bool)
  | 0, _, _, _ => none
  | k + 1, x0, x1, x5 => if x5 < (x1.size : Int) then (if x5 ≥ (x0.size : Int) then (abacuslaw18_ahead.j1 k x0 x1 x5 true) else (if 0 ≤ x5 then (if x5 < (x0.size : Int) then (abacuslaw18_ahead.j1 k x0 x1 x5 (decide ((bt x0 x5) < (bt x1 x5)))) else (none)) else (none))) else (some false)
def abacuslaw18_ahead.j1 : Nat → ByteArray → ByteArray → Int → Bool → Option (Bool)
  | 0, _, _, _, _ => none
  | k + 1, x0, x1, x5, x24 => if x24 = true then (some true) else (if 0 ≤ x5 then (if x5 < (x0.size : Int) then (if x5 < (x1.size : Int) then (if (bt x0 x5) > (bt x1 x5) then (some false) else (abacuslaw18_ahead.l0 k x0 x1 (wrap64 (x5 + 1)))) else (none)) else (none)) else (none))
end
def abacuslaw18_ahead.f (k : Nat) (a0 : ByteArray) (a1 : ByteArray) : Option (Bool) := abacuslaw18_ahead.l0 k a0 a1 0
theorem abacuslaw18_ahead.mono_l : ∀ k, (∀ y0 y1 y2, LeO (abacuslaw18_ahead.l0 k y0 y1 y2) (abacuslaw18_ahead.l0 (k + 1) y0 y1 y2)) ∧ (∀ y0 y1 y2 y3, LeO (abacuslaw18_ahead.j1 k y0 y1 y2 y3) (abacuslaw18_ahead.j1 (k + 1) y0 y1 y2 y3))
  | 0 => ⟨fun _ _ _ r h => by simp [abacuslaw18_ahead.l0] at h, fun _ _ _ _ r h => by simp [abacuslaw18_ahead.j1] at h⟩
  | k + 1 => by
    obtain ⟨ih0, ih1⟩ := abacuslaw18_ahead.mono_l k
    refine ⟨?_, ?_⟩
    · intro y0 y1 y2
      unfold abacuslaw18_ahead.l0
      repeat' first
      | (with_reducible exact ih0 _ _ _)
      | (with_reducible exact ih1 _ _ _ _)
      | (with_reducible exact LeO.refl _)
      | (with_reducible exact LeO.none _)
      | (with_reducible refine LeO.ite ?_ ?_)
      | (with_reducible refine LeO.bind ?_ (fun _ => ?_))
      | exact ih0 _ _ _
      | exact ih1 _ _ _ _
      | exact LeO.none _
      | refine LeO.ite ?_ ?_
      | refine LeO.bind ?_ (fun _ => ?_)
    · intro y0 y1 y2 y3
      unfold abacuslaw18_ahead.j1
      repeat' first
      | (with_reducible exact ih0 _ _ _)
      | (with_reducible exact ih1 _ _ _ _)
      | (with_reducible exact LeO.refl _)
      | (with_reducible exact LeO.none _)
      | (with_reducible refine LeO.ite ?_ ?_)
      | (with_reducible refine LeO.bind ?_ (fun _ => ?_))
      | exact ih0 _ _ _
      | exact ih1 _ _ _ _
      | exact LeO.none _
      | refine LeO.ite ?_ ?_
      | refine LeO.bind ?_ (fun _ => ?_)
theorem abacuslaw18_ahead.mono : ∀ a0 a1 k, LeO (abacuslaw18_ahead.f k a0 a1) (abacuslaw18_ahead.f (k + 1) a0 a1) := by
  intro a0 a1 k
  obtain ⟨ih0, ih1⟩ := abacuslaw18_ahead.mono_l k
  unfold abacuslaw18_ahead.f
  repeat' first
      | (with_reducible exact ih0 _ _ _)
      | (with_reducible exact ih1 _ _ _ _)
      | (with_reducible exact LeO.refl _)
      | (with_reducible exact LeO.none _)
      | (with_reducible refine LeO.ite ?_ ?_)
      | (with_reducible refine LeO.bind ?_ (fun _ => ?_))
      | exact ih0 _ _ _
      | exact ih1 _ _ _ _
      | exact LeO.none _
      | refine LeO.ite ?_ ?_
      | refine LeO.bind ?_ (fun _ => ?_)
set_option maxHeartbeats 8000000 in
set_option maxRecDepth 100000 in
theorem abacuslaw18_ahead.calls (k : Nat) (a0 : ByteArray) (a1 : ByteArray) (r : Bool) (w : World) (h : abacuslaw18_ahead.f k a0 a1 = some r) (HG : Aside0 (GW w) := by first | (with_reducible exact HG) | exact ⟨GW.below HG.out (by repeat (first | (with_reducible first | exact HB.out | apply below_alloc | apply pw_below_drewN | apply below_drew1) | (with_reducible refine below_set ?_ (Aside0.out (by assumption))) | exact HB.out | exact Below.refl _ _))⟩ | exact ⟨GW.drewN HG.out _⟩ | exact ⟨GW.drew HG.out⟩ | exact ⟨GW.drewN (GW.drewN HG.out _) _⟩ | exact ⟨GW.drewN (GW.drew HG.out) _⟩) :
    Calls Tryz.prog 16 #[.string a0, .string a1] w fun e w' => e = .returned (.bool r) ∧ Drawn0 w w' := by
  have H : (abacuslaw18_ahead.l0 k a0 a1 0) = some r := h
  clear h
  have H' := Aside0.mk H
  clear H
  go_enter Tryz.func16, Tryz.ntmps16
  go_wp2
  repeat (go_quiet (fail); try go_wp2)
  go_loopg [5] k (fun kq v5 w' => ∃ (x5_1 : Int), v5 = .int .i64 x5_1 ∧ Aside0 (abacuslaw18_ahead.l0 kq a0 a1 x5_1 = some r) ∧ Aside0 (kq ≤ k) ∧ Drawn0 w w')
  case atStart => exact ⟨(0), (by first | rfl | (simp; done) | (simp [*]; done)), H', ⟨Nat.le_refl _⟩, by repeat (first | exact Drawn0.refl _ | apply Drawn0.step)⟩
  case round =>
    clear H'
    try clear c1
    try clear p2
    obtain ⟨x5_1, rfl, HA, HK1, ⟨m1, rfl⟩⟩ := hrel
    cases gk with
    | zero => exact absurd HA.out (by simp [abacuslaw18_ahead.l0])
    | succ k1 =>
      have H := HA.out
      clear HA
      simp only [abacuslaw18_ahead.l0] at H
      by_cases c3 : x5_1 < (a1.size : Int)
      · rw [if_pos c3] at H
        have c3b0 : decide (x5_1 < (a1.size : Int)) = true := decide_eq_true c3
        clear c3
        have HC4 := Aside0.mk H
        clear H
        go_upto_region 4 with (fail)
        repeat (go_quiet (fail); go_upto_region 4 with (fail))
        go_cut [24] (fun v24 wc => ∃ (kq : Nat) (x24_3 : Bool), v24 = .bool x24_3 ∧ Aside0 (abacuslaw18_ahead.j1 kq a0 a1 x5_1 x24_3 = some r) ∧ Aside0 (kq ≤ k1) ∧ Drawn0 w wc)
        case first =>
          have H := HC4.out
          clear HC4
          by_cases c5 : x5_1 ≥ (a0.size : Int)
          · rw [if_pos c5] at H
            have c5b0 : decide ((a0.size : Int) ≤ x5_1) = true := decide_eq_true c5
            clear c5
            (first | rw [c5b0] | (simp only [i64_w, i32_w]; rw [c5b0]) | skip)
            have H' := Aside0.mk H
            clear H
            go_wp2
            repeat (go_quiet (fail); try go_wp2)
            go_meet
            case rel => exact ⟨_, (true), (by first | rfl | (simp; done) | (simp [*]; done)), H', ⟨by have := HK1.out; first | omega | exact Nat.le_refl _⟩, by repeat (first | exact Drawn0.refl _ | apply Drawn0.step)⟩
          · rw [if_neg c5] at H
            have c5b0 : decide ((a0.size : Int) ≤ x5_1) = false := decide_eq_false c5
            clear c5
            (first | rw [c5b0] | (simp only [i64_w, i32_w]; rw [c5b0]) | skip)
            by_cases c6 : 0 ≤ x5_1
            · rw [if_pos c6] at H
              have c6b0 : decide (0 ≤ x5_1) = true := decide_eq_true c6
              clear c6
              by_cases c7 : x5_1 < (a0.size : Int)
              · rw [if_pos c7] at H
                have c7b0 : decide (x5_1 < (a0.size : Int)) = true := decide_eq_true c7
                clear c7
                have H' := Aside0.mk H
                clear H
                have p8 : 0 ≤ (x5_1 : Int) := of_decide_eq_true (by first | (with_reducible assumption) | assumption)
                have q8 : x5_1 < (a0.size : Int) := of_decide_eq_true (by first | (with_reducible assumption) | assumption)
                have hx8 := bt_at a0 x5_1
                replace p8 := eq_true p8
                replace q8 := eq_true q8
                have p9 : 0 ≤ (x5_1 : Int) := of_decide_eq_true (by first | (with_reducible assumption) | assumption)
                have q9 : x5_1 < (a1.size : Int) := of_decide_eq_true (by first | (with_reducible assumption) | assumption)
                have hx9 := bt_at a1 x5_1
                replace p9 := eq_true p9
                replace q9 := eq_true q9
                go_wp2
                repeat (go_quiet (fail); try go_wp2)
                go_meet
                case rel => exact ⟨_, (decide ((bt a0 x5_1) < (bt a1 x5_1))), (by first | rfl | (simp; done) | (simp [*]; done)), H', ⟨by have := HK1.out; first | omega | exact Nat.le_refl _⟩, by repeat (first | exact Drawn0.refl _ | apply Drawn0.step)⟩
              · rw [if_neg c7] at H
                exact absurd H (by simp)
            · rw [if_neg c6] at H
              exact absurd H (by simp)
        case rest =>
          clear HC4
          try clear c1
          try clear p2
          try clear c3
          try clear c3b0
          try clear c5
          try clear c5b0
          try clear c6
          try clear c6b0
          try clear c7
          try clear c7b0
          try clear p8
          try clear q8
          try clear hx8
          try clear p9
          try clear q9
          try clear hx9
          try clear p2
          try clear p8
          try clear p9
          try clear q8
          try clear q9
          obtain ⟨kq, x24_3, rfl, HA, HJ3, ⟨mc3, rfl⟩⟩ := hcut
          cases kq with
          | zero => exact absurd HA.out (by simp [abacuslaw18_ahead.j1])
          | succ kj3 =>
            have H := HA.out
            clear HA
            simp only [abacuslaw18_ahead.j1] at H
            by_cases c10 : x24_3 = true
            · subst c10
              have H1 : (some true) = some r := by rw [if_pos rfl] at H; exact H
              clear H
              have H := H1
              clear H1
              obtain rfl := Option.some.inj H
              go_wp2
              repeat (go_quiet (fail); try go_wp2)
              go_ret
              exact ⟨by first | rfl | (simp; done) | (simp [*]; done), by repeat (first | exact Drawn0.refl _ | apply Drawn0.step)⟩
            · replace c10 := Bool.eq_false_iff.mpr c10
              subst c10
              have H1 : (if 0 ≤ x5_1 then (if x5_1 < (a0.size : Int) then (if x5_1 < (a1.size : Int) then (if (bt a0 x5_1) > (bt a1 x5_1) then (some false) else (abacuslaw18_ahead.l0 kj3 a0 a1 (wrap64 (x5_1 + 1)))) else (none)) else (none)) else (none)) = some r := by rw [if_neg (show ¬ (false = true) by decide)] at H; exact H
              clear H
              have H := H1
              clear H1
              by_cases c11 : 0 ≤ x5_1
              · rw [if_pos c11] at H
                have c11b0 : decide (0 ≤ x5_1) = true := decide_eq_true c11
                clear c11
                by_cases c12 : x5_1 < (a0.size : Int)
                · rw [if_pos c12] at H
                  have c12b0 : decide (x5_1 < (a0.size : Int)) = true := decide_eq_true c12
                  clear c12
                  by_cases c14 : x5_1 < (a1.size : Int)
                  · rw [if_pos c14] at H
                    have c14b0 : decide (x5_1 < (a1.size : Int)) = true := decide_eq_true c14
                    clear c14
                    by_cases c16 : (bt a0 x5_1) > (bt a1 x5_1)
                    · rw [if_pos c16] at H
                      have c16b0 : decide ((bt a1 x5_1) < (bt a0 x5_1)) = true := decide_eq_true c16
                      clear c16
                      obtain rfl := Option.some.inj H
                      have p13 : 0 ≤ (x5_1 : Int) := of_decide_eq_true (by first | (with_reducible assumption) | assumption)
                      have q13 : x5_1 < (a0.size : Int) := of_decide_eq_true (by first | (with_reducible assumption) | assumption)
                      have hx13 := bt_at a0 x5_1
                      replace p13 := eq_true p13
                      replace q13 := eq_true q13
                      have p15 : 0 ≤ (x5_1 : Int) := of_decide_eq_true (by first | (with_reducible assumption) | assumption)
                      have q15 : x5_1 < (a1.size : Int) := of_decide_eq_true (by first | (with_reducible assumption) | assumption)
                      have hx15 := bt_at a1 x5_1
                      replace p15 := eq_true p15
                      replace q15 := eq_true q15
                      go_wp2
                      repeat (go_quiet (fail); try go_wp2)
                      go_ret
                      exact ⟨by first | rfl | (simp; done) | (simp [*]; done), by repeat (first | exact Drawn0.refl _ | apply Drawn0.step)⟩
                    · rw [if_neg c16] at H
                      have c16b0 : decide ((bt a1 x5_1) < (bt a0 x5_1)) = false := decide_eq_false c16
                      clear c16
                      have H' := Aside0.mk H
                      clear H
                      have p13 : 0 ≤ (x5_1 : Int) := of_decide_eq_true (by first | (with_reducible assumption) | assumption)
                      have q13 : x5_1 < (a0.size : Int) := of_decide_eq_true (by first | (with_reducible assumption) | assumption)
                      have hx13 := bt_at a0 x5_1
                      replace p13 := eq_true p13
                      replace q13 := eq_true q13
                      have p15 : 0 ≤ (x5_1 : Int) := of_decide_eq_true (by first | (with_reducible assumption) | assumption)
                      have q15 : x5_1 < (a1.size : Int) := of_decide_eq_true (by first | (with_reducible assumption) | assumption)
                      have hx15 := bt_at a1 x5_1
                      replace p15 := eq_true p15
                      replace q15 := eq_true q15
                      go_wp2
                      repeat (go_quiet (fail); try go_wp2)
                      go_roundg kj3
                      case measure => have := HK1.out; have := HJ3.out; omega
                      case rel => exact ⟨(wrap64 (x5_1 + 1)), (by first | rfl | (simp; done) | (simp [*]; done)), H', ⟨by have := HK1.out; have := HJ3.out; omega⟩, by repeat (first | exact Drawn0.refl _ | apply Drawn0.step)⟩
                  · rw [if_neg c14] at H
                    exact absurd H (by simp)
                · rw [if_neg c12] at H
                  exact absurd H (by simp)
              · rw [if_neg c11] at H
                exact absurd H (by simp)
      · rw [if_neg c3] at H
        have c3b0 : decide (x5_1 < (a1.size : Int)) = false := decide_eq_false c3
        clear c3
        obtain rfl := Option.some.inj H
        go_wp2
        repeat (go_quiet (fail); try go_wp2)
        go_ret
        exact ⟨by first | rfl | (simp; done) | (simp [*]; done), by repeat (first | exact Drawn0.refl _ | apply Drawn0.step)⟩

/-! ### abacuslaw18_RelateTexts: function 3 -/
def abacuslaw18_RelateTexts.j0 : Nat → ByteArray → ByteArray → ByteArray → Int → Int → Option (Bool)
  | 0, _, _, _, _, _ => none
  | k + 1, x0, x1, x2, x3, x10 => (abacuslaw18_str.f x0).bind fun bt260 => ((abacuslaw18_str.f x1).bind fun bt263 => ((relate_Compare.f k bt260.1 bt260.2.1 bt260.2.2 bt263.1 bt263.2.1 bt263.2.2 x2).bind fun bt266 => (if bt266.1 = x10 then (if bt266.2 = 0 then ((abacuslaw18_str.f x0).bind fun bt268 => ((abacuslaw18_str.f x1).bind fun bt271 => ((relate_Order.f k bt268.1 bt268.2.1 bt268.2.2 bt271.1 bt271.2.1 bt271.2.2).bind fun t274 => (if t274 = x10 then ((abacuslaw18_num.f x3).bind fun bt275 => ((abacuslaw18_str.f x0).bind fun bt278 => ((relate_Order.f k bt275.1 bt275.2.1 bt275.2.2 bt278.1 bt278.2.1 bt278.2.2).bind fun t281 => (if t281 = (-1) then ((abacuslaw18_str.f x0).bind fun bt282 => ((relate_Order.f k bt282.1 bt282.2.1 bt282.2.2 0 0 (⟨#[]⟩ : ByteArray)).bind fun t285 => (some (t285 == 1)))) else (some false))))) else (some false))))) else (some false)) else (some false))))
def abacuslaw18_RelateTexts.f (k : Nat) (a0 : ByteArray) (a1 : ByteArray) (a2 : ByteArray) (a3 : Int) : Option (Bool) := (abacuslaw18_awake.f k).bind fun t257 => (if t257 = true then ((abacuslaw18_ahead.f k a0 a1).bind fun t258 => (if t258 = true then (abacuslaw18_RelateTexts.j0 k a0 a1 a2 a3 (-1)) else ((abacuslaw18_ahead.f k a1 a0).bind fun t259 => (if t259 = true then (abacuslaw18_RelateTexts.j0 k a0 a1 a2 a3 1) else (abacuslaw18_RelateTexts.j0 k a0 a1 a2 a3 0))))) else (some false))
theorem abacuslaw18_RelateTexts.mono_l : ∀ k, (∀ y0 y1 y2 y3 y4, LeO (abacuslaw18_RelateTexts.j0 k y0 y1 y2 y3 y4) (abacuslaw18_RelateTexts.j0 (k + 1) y0 y1 y2 y3 y4))
  | 0 => fun _ _ _ _ _ r h => by simp [abacuslaw18_RelateTexts.j0] at h
  | k + 1 => by
    have ih0 := abacuslaw18_RelateTexts.mono_l k
    · intro y0 y1 y2 y3 y4
      unfold abacuslaw18_RelateTexts.j0
      repeat' first
      | (with_reducible exact ih0 _ _ _ _ _)
      | (with_reducible exact abacuslaw18_ahead.mono _ _ _)
      | (with_reducible exact abacuslaw18_awake.mono _)
      | (with_reducible exact relate_Compare.mono _ _ _ _ _ _ _ _)
      | (with_reducible exact relate_Order.mono _ _ _ _ _ _ _)
      | (with_reducible exact LeO.refl _)
      | (with_reducible exact LeO.none _)
      | (with_reducible refine LeO.ite ?_ ?_)
      | (with_reducible refine LeO.bind ?_ (fun _ => ?_))
      | exact ih0 _ _ _ _ _
      | exact abacuslaw18_ahead.mono _ _ _
      | exact abacuslaw18_awake.mono _
      | exact relate_Compare.mono _ _ _ _ _ _ _ _
      | exact relate_Order.mono _ _ _ _ _ _ _
      | exact LeO.none _
      | refine LeO.ite ?_ ?_
      | refine LeO.bind ?_ (fun _ => ?_)
theorem abacuslaw18_RelateTexts.mono : ∀ a0 a1 a2 a3 k, LeO (abacuslaw18_RelateTexts.f k a0 a1 a2 a3) (abacuslaw18_RelateTexts.f (k + 1) a0 a1 a2 a3) := by
  intro a0 a1 a2 a3 k
  have ih0 := abacuslaw18_RelateTexts.mono_l k
  unfold abacuslaw18_RelateTexts.f
  repeat' first
      | (with_reducible exact ih0 _ _ _ _ _)
      | (with_reducible exact abacuslaw18_ahead.mono _ _ _)
      | (with_reducible exact abacuslaw18_awake.mono _)
      | (with_reducible exact relate_Compare.mono _ _ _ _ _ _ _ _)
      | (with_reducible exact relate_Order.mono _ _ _ _ _ _ _)
      | (with_reducible exact LeO.refl _)
      | (with_reducible exact LeO.none _)
      | (with_reducible refine LeO.ite ?_ ?_)
      | (with_reducible refine LeO.bind ?_ (fun _ => ?_))
      | exact ih0 _ _ _ _ _
      | exact abacuslaw18_ahead.mono _ _ _
      | exact abacuslaw18_awake.mono _
      | exact relate_Compare.mono _ _ _ _ _ _ _ _
      | exact relate_Order.mono _ _ _ _ _ _ _
      | exact LeO.none _
      | refine LeO.ite ?_ ?_
      | refine LeO.bind ?_ (fun _ => ?_)
set_option maxHeartbeats 8000000 in
set_option maxRecDepth 100000 in
theorem abacuslaw18_RelateTexts.calls (k : Nat) (a0 : ByteArray) (a1 : ByteArray) (a2 : ByteArray) (a3 : Int) (r : Bool) (w : World) (h : abacuslaw18_RelateTexts.f k a0 a1 a2 a3 = some r) (HG : Aside0 (GW w) := by first | (with_reducible exact HG) | exact ⟨GW.below HG.out (by repeat (first | (with_reducible first | exact HB.out | apply below_alloc | apply pw_below_drewN | apply below_drew1) | (with_reducible refine below_set ?_ (Aside0.out (by assumption))) | exact HB.out | exact Below.refl _ _))⟩ | exact ⟨GW.drewN HG.out _⟩ | exact ⟨GW.drew HG.out⟩ | exact ⟨GW.drewN (GW.drewN HG.out _) _⟩ | exact ⟨GW.drewN (GW.drew HG.out) _⟩) :
    Calls Tryz.prog 3 #[.string a0, .string a1, .string a2, .int .u64 a3] w fun e w' => e = .returned (.bool r) ∧ Below w.heap.size w w' := by
  have hu29 := Tryz.underlying29
  have HB := Aside0.mk (Below.refl w.heap.size w)
  have H : ((abacuslaw18_awake.f k).bind fun t257 => (if t257 = true then ((abacuslaw18_ahead.f k a0 a1).bind fun t258 => (if t258 = true then (abacuslaw18_RelateTexts.j0 k a0 a1 a2 a3 (-1)) else ((abacuslaw18_ahead.f k a1 a0).bind fun t259 => (if t259 = true then (abacuslaw18_RelateTexts.j0 k a0 a1 a2 a3 1) else (abacuslaw18_RelateTexts.j0 k a0 a1 a2 a3 0))))) else (some false))) = some r := h
  clear h
  replace H := Option.bind_eq_some_iff.mp H
  obtain ⟨t257, A50, H⟩ := H
  replace H : (if t257 = true then ((abacuslaw18_ahead.f k a0 a1).bind fun t258 => (if t258 = true then (abacuslaw18_RelateTexts.j0 k a0 a1 a2 a3 (-1)) else ((abacuslaw18_ahead.f k a1 a0).bind fun t259 => (if t259 = true then (abacuslaw18_RelateTexts.j0 k a0 a1 a2 a3 1) else (abacuslaw18_RelateTexts.j0 k a0 a1 a2 a3 0))))) else (some false)) = some r := H
  have A5 := Aside0.mk A50
  clear A50
  by_cases c6 : t257 = true
  · subst c6
    have H1 : ((abacuslaw18_ahead.f k a0 a1).bind fun t258 => (if t258 = true then (abacuslaw18_RelateTexts.j0 k a0 a1 a2 a3 (-1)) else ((abacuslaw18_ahead.f k a1 a0).bind fun t259 => (if t259 = true then (abacuslaw18_RelateTexts.j0 k a0 a1 a2 a3 1) else (abacuslaw18_RelateTexts.j0 k a0 a1 a2 a3 0))))) = some r := by rw [if_pos rfl] at H; exact H
    clear H
    have H := H1
    clear H1
    replace H := Option.bind_eq_some_iff.mp H
    obtain ⟨t258, A70, H⟩ := H
    replace H : (if t258 = true then (abacuslaw18_RelateTexts.j0 k a0 a1 a2 a3 (-1)) else ((abacuslaw18_ahead.f k a1 a0).bind fun t259 => (if t259 = true then (abacuslaw18_RelateTexts.j0 k a0 a1 a2 a3 1) else (abacuslaw18_RelateTexts.j0 k a0 a1 a2 a3 0)))) = some r := H
    have A7 := Aside0.mk A70
    clear A70
    have HC8 := Aside0.mk H
    clear H
    go_enter Tryz.func3, Tryz.ntmps3
    go_upto_if 18 with (first | ((with_reducible refine gate_callee (f := 15) rfl ?_); refine goesL_ (some 13) rfl rfl Tryz.func15 (by kernel_rfl) rfl #[] rfl (by (try simp only [List.map_toArray, List.map_cons, List.map_nil]); first | done | rfl | (simp only [List.length_drop, List.length_take]; rfl)) ?_; (with_reducible refine (abacuslaw18_awake.calls k  true _ A5.out).mono ?_); rintro e w9 ⟨rfl, hb⟩; refine ⟨_, rfl, ?_⟩; have n0_ := Aside0.mk (below_step (by repeat (first | (with_reducible first | exact HB.out | apply below_alloc | apply pw_below_drewN | apply below_drew1) | exact HB.out)) hb); clear HB; have HB := n0_; clear n0_; (try clear hb); (try clear hb2); (try clear hk); (try clear hi)) | ((with_reducible refine gate_callee (f := 16) rfl ?_); refine goesL_ (some 18) rfl rfl Tryz.func16 (by kernel_rfl) rfl #[.string a0, .string a1] rfl (by (try simp only [List.map_toArray, List.map_cons, List.map_nil]); first | done | rfl | (simp only [List.length_drop, List.length_take]; rfl)) ?_; (with_reducible refine (abacuslaw18_ahead.calls k a0 a1 t258 _ A7.out).mono ?_); rintro e w' ⟨rfl, ⟨nd, rfl⟩⟩; refine ⟨_, rfl, ?_⟩))
    (try simp only [Act.put, List.setIfInBounds_toArray, List.set_cons_zero, List.set_cons_succ])
    go_cut [10] (fun v10 wc => ∃ (kq : Nat) (x10_7 : Int), v10 = .int .i64 x10_7 ∧ Aside0 (abacuslaw18_RelateTexts.j0 kq a0 a1 a2 a3 x10_7 = some r) ∧ Aside0 (kq ≤ k) ∧ Aside0 (Below w.heap.size w wc))
    case first =>
      have H := HC8.out
      clear HC8
      by_cases c10 : t258 = true
      · subst c10
        have H1 : (abacuslaw18_RelateTexts.j0 k a0 a1 a2 a3 (-1)) = some r := by rw [if_pos rfl] at H; exact H
        clear H
        have H := H1
        clear H1
        have H' := Aside0.mk H
        clear H
        go_wp2
        go_meet
        case rel => exact ⟨_, ((-1)), (by first | rfl | (simp; done) | (simp [*]; done)), H', ⟨by first | omega | exact Nat.le_refl _⟩, ⟨by repeat (first | (with_reducible first | exact HB.out | apply below_alloc | apply pw_below_drewN | apply below_drew1) | exact HB.out)⟩⟩
      · replace c10 := Bool.eq_false_iff.mpr c10
        subst c10
        have H1 : ((abacuslaw18_ahead.f k a1 a0).bind fun t259 => (if t259 = true then (abacuslaw18_RelateTexts.j0 k a0 a1 a2 a3 1) else (abacuslaw18_RelateTexts.j0 k a0 a1 a2 a3 0))) = some r := by rw [if_neg (show ¬ (false = true) by decide)] at H; exact H
        clear H
        have H := H1
        clear H1
        replace H := Option.bind_eq_some_iff.mp H
        obtain ⟨t259, A110, H⟩ := H
        replace H : (if t259 = true then (abacuslaw18_RelateTexts.j0 k a0 a1 a2 a3 1) else (abacuslaw18_RelateTexts.j0 k a0 a1 a2 a3 0)) = some r := H
        have A11 := Aside0.mk A110
        clear A110
        by_cases c12 : t259 = true
        · subst c12
          have H1 : (abacuslaw18_RelateTexts.j0 k a0 a1 a2 a3 1) = some r := by rw [if_pos rfl] at H; exact H
          clear H
          have H := H1
          clear H1
          have H' := Aside0.mk H
          clear H
          go_wp2_with (first | ((with_reducible refine gate_callee (f := 16) rfl ?_); refine goesL_ (some 21) rfl rfl Tryz.func16 (by kernel_rfl) rfl #[.string a1, .string a0] rfl (by (try simp only [List.map_toArray, List.map_cons, List.map_nil]); first | done | rfl | (simp only [List.length_drop, List.length_take]; rfl)) ?_; (with_reducible refine (abacuslaw18_ahead.calls k a1 a0 true _ A11.out).mono ?_); rintro e w' ⟨rfl, ⟨nd, rfl⟩⟩; refine ⟨_, rfl, ?_⟩))
          go_meet
          case rel => exact ⟨_, (1), (by first | rfl | (simp; done) | (simp [*]; done)), H', ⟨by first | omega | exact Nat.le_refl _⟩, ⟨by repeat (first | (with_reducible first | exact HB.out | apply below_alloc | apply pw_below_drewN | apply below_drew1) | exact HB.out)⟩⟩
        · replace c12 := Bool.eq_false_iff.mpr c12
          subst c12
          have H1 : (abacuslaw18_RelateTexts.j0 k a0 a1 a2 a3 0) = some r := by rw [if_neg (show ¬ (false = true) by decide)] at H; exact H
          clear H
          have H := H1
          clear H1
          have H' := Aside0.mk H
          clear H
          go_wp2_with (first | ((with_reducible refine gate_callee (f := 16) rfl ?_); refine goesL_ (some 21) rfl rfl Tryz.func16 (by kernel_rfl) rfl #[.string a1, .string a0] rfl (by (try simp only [List.map_toArray, List.map_cons, List.map_nil]); first | done | rfl | (simp only [List.length_drop, List.length_take]; rfl)) ?_; (with_reducible refine (abacuslaw18_ahead.calls k a1 a0 false _ A11.out).mono ?_); rintro e w' ⟨rfl, ⟨nd, rfl⟩⟩; refine ⟨_, rfl, ?_⟩))
          go_meet
          case rel => exact ⟨_, (0), (by first | rfl | (simp; done) | (simp [*]; done)), H', ⟨by first | omega | exact Nat.le_refl _⟩, ⟨by repeat (first | (with_reducible first | exact HB.out | apply below_alloc | apply pw_below_drewN | apply below_drew1) | exact HB.out)⟩⟩
    case rest =>
      clear HC8
      try clear c1
      try clear p2
      try clear c3
      try clear c6
      try clear c10
      try clear c12
      obtain ⟨kq, x10_7, rfl, HA, HJ7, HB⟩ := hcut
      cases kq with
      | zero => exact absurd HA.out (by simp [abacuslaw18_RelateTexts.j0])
      | succ kj7 =>
        have H := HA.out
        clear HA
        simp only [abacuslaw18_RelateTexts.j0] at H
        replace H := Option.bind_eq_some_iff.mp H
        obtain ⟨⟨t260, t261, t262⟩, A130, H⟩ := H
        replace H : ((abacuslaw18_str.f a1).bind fun bt263 => ((relate_Compare.f kj7 t260 t261 t262 bt263.1 bt263.2.1 bt263.2.2 a2).bind fun bt266 => (if bt266.1 = x10_7 then (if bt266.2 = 0 then ((abacuslaw18_str.f a0).bind fun bt268 => ((abacuslaw18_str.f a1).bind fun bt271 => ((relate_Order.f kj7 bt268.1 bt268.2.1 bt268.2.2 bt271.1 bt271.2.1 bt271.2.2).bind fun t274 => (if t274 = x10_7 then ((abacuslaw18_num.f a3).bind fun bt275 => ((abacuslaw18_str.f a0).bind fun bt278 => ((relate_Order.f kj7 bt275.1 bt275.2.1 bt275.2.2 bt278.1 bt278.2.1 bt278.2.2).bind fun t281 => (if t281 = (-1) then ((abacuslaw18_str.f a0).bind fun bt282 => ((relate_Order.f kj7 bt282.1 bt282.2.1 bt282.2.2 0 0 (⟨#[]⟩ : ByteArray)).bind fun t285 => (some (t285 == 1)))) else (some false))))) else (some false))))) else (some false)) else (some false)))) = some r := H
        have A13 := Aside0.mk A130
        clear A130
        replace H := Option.bind_eq_some_iff.mp H
        obtain ⟨⟨t263, t264, t265⟩, A140, H⟩ := H
        replace H : ((relate_Compare.f kj7 t260 t261 t262 t263 t264 t265 a2).bind fun bt266 => (if bt266.1 = x10_7 then (if bt266.2 = 0 then ((abacuslaw18_str.f a0).bind fun bt268 => ((abacuslaw18_str.f a1).bind fun bt271 => ((relate_Order.f kj7 bt268.1 bt268.2.1 bt268.2.2 bt271.1 bt271.2.1 bt271.2.2).bind fun t274 => (if t274 = x10_7 then ((abacuslaw18_num.f a3).bind fun bt275 => ((abacuslaw18_str.f a0).bind fun bt278 => ((relate_Order.f kj7 bt275.1 bt275.2.1 bt275.2.2 bt278.1 bt278.2.1 bt278.2.2).bind fun t281 => (if t281 = (-1) then ((abacuslaw18_str.f a0).bind fun bt282 => ((relate_Order.f kj7 bt282.1 bt282.2.1 bt282.2.2 0 0 (⟨#[]⟩ : ByteArray)).bind fun t285 => (some (t285 == 1)))) else (some false))))) else (some false))))) else (some false)) else (some false))) = some r := H
        have A14 := Aside0.mk A140
        clear A140
        replace H := Option.bind_eq_some_iff.mp H
        obtain ⟨⟨t266, t267⟩, A150, H⟩ := H
        replace H : (if t266 = x10_7 then (if t267 = 0 then ((abacuslaw18_str.f a0).bind fun bt268 => ((abacuslaw18_str.f a1).bind fun bt271 => ((relate_Order.f kj7 bt268.1 bt268.2.1 bt268.2.2 bt271.1 bt271.2.1 bt271.2.2).bind fun t274 => (if t274 = x10_7 then ((abacuslaw18_num.f a3).bind fun bt275 => ((abacuslaw18_str.f a0).bind fun bt278 => ((relate_Order.f kj7 bt275.1 bt275.2.1 bt275.2.2 bt278.1 bt278.2.1 bt278.2.2).bind fun t281 => (if t281 = (-1) then ((abacuslaw18_str.f a0).bind fun bt282 => ((relate_Order.f kj7 bt282.1 bt282.2.1 bt282.2.2 0 0 (⟨#[]⟩ : ByteArray)).bind fun t285 => (some (t285 == 1)))) else (some false))))) else (some false))))) else (some false)) else (some false)) = some r := H
        have A15 := Aside0.mk A150
        clear A150
        by_cases c16 : t266 = x10_7
        · rw [if_pos c16] at H
          have c16b0 : (t266 == x10_7) = true := beq_iff_eq.mpr c16
          have c16b1 : (t266 != x10_7) = false := bne_eq_false_iff_eq.mpr c16
          clear c16
          by_cases c17 : t267 = 0
          · rw [if_pos c17] at H
            have c17b0 : (t267 == 0) = true := beq_iff_eq.mpr c17
            have c17b1 : (t267 != 0) = false := bne_eq_false_iff_eq.mpr c17
            clear c17
            replace H := Option.bind_eq_some_iff.mp H
            obtain ⟨⟨t268, t269, t270⟩, A180, H⟩ := H
            obtain ⟨rfl, rfl, rfl⟩ : t260 = t268 ∧ t261 = t269 ∧ t262 = t270 := same3 A13.out A180
            replace H : ((abacuslaw18_str.f a1).bind fun bt271 => ((relate_Order.f kj7 t260 t261 t262 bt271.1 bt271.2.1 bt271.2.2).bind fun t274 => (if t274 = x10_7 then ((abacuslaw18_num.f a3).bind fun bt275 => ((abacuslaw18_str.f a0).bind fun bt278 => ((relate_Order.f kj7 bt275.1 bt275.2.1 bt275.2.2 bt278.1 bt278.2.1 bt278.2.2).bind fun t281 => (if t281 = (-1) then ((abacuslaw18_str.f a0).bind fun bt282 => ((relate_Order.f kj7 bt282.1 bt282.2.1 bt282.2.2 0 0 (⟨#[]⟩ : ByteArray)).bind fun t285 => (some (t285 == 1)))) else (some false))))) else (some false)))) = some r := H
            have A18 := Aside0.mk A180
            clear A180
            replace H := Option.bind_eq_some_iff.mp H
            obtain ⟨⟨t271, t272, t273⟩, A190, H⟩ := H
            obtain ⟨rfl, rfl, rfl⟩ : t263 = t271 ∧ t264 = t272 ∧ t265 = t273 := same3 A14.out A190
            replace H : ((relate_Order.f kj7 t260 t261 t262 t263 t264 t265).bind fun t274 => (if t274 = x10_7 then ((abacuslaw18_num.f a3).bind fun bt275 => ((abacuslaw18_str.f a0).bind fun bt278 => ((relate_Order.f kj7 bt275.1 bt275.2.1 bt275.2.2 bt278.1 bt278.2.1 bt278.2.2).bind fun t281 => (if t281 = (-1) then ((abacuslaw18_str.f a0).bind fun bt282 => ((relate_Order.f kj7 bt282.1 bt282.2.1 bt282.2.2 0 0 (⟨#[]⟩ : ByteArray)).bind fun t285 => (some (t285 == 1)))) else (some false))))) else (some false))) = some r := H
            have A19 := Aside0.mk A190
            clear A190
            replace H := Option.bind_eq_some_iff.mp H
            obtain ⟨t274, A200, H⟩ := H
            replace H : (if t274 = x10_7 then ((abacuslaw18_num.f a3).bind fun bt275 => ((abacuslaw18_str.f a0).bind fun bt278 => ((relate_Order.f kj7 bt275.1 bt275.2.1 bt275.2.2 bt278.1 bt278.2.1 bt278.2.2).bind fun t281 => (if t281 = (-1) then ((abacuslaw18_str.f a0).bind fun bt282 => ((relate_Order.f kj7 bt282.1 bt282.2.1 bt282.2.2 0 0 (⟨#[]⟩ : ByteArray)).bind fun t285 => (some (t285 == 1)))) else (some false))))) else (some false)) = some r := H
            have A20 := Aside0.mk A200
            clear A200
            by_cases c21 : t274 = x10_7
            · rw [if_pos c21] at H
              have c21b0 : (t274 == x10_7) = true := beq_iff_eq.mpr c21
              have c21b1 : (t274 != x10_7) = false := bne_eq_false_iff_eq.mpr c21
              clear c21
              replace H := Option.bind_eq_some_iff.mp H
              obtain ⟨⟨t275, t276, t277⟩, A220, H⟩ := H
              replace H : ((abacuslaw18_str.f a0).bind fun bt278 => ((relate_Order.f kj7 t275 t276 t277 bt278.1 bt278.2.1 bt278.2.2).bind fun t281 => (if t281 = (-1) then ((abacuslaw18_str.f a0).bind fun bt282 => ((relate_Order.f kj7 bt282.1 bt282.2.1 bt282.2.2 0 0 (⟨#[]⟩ : ByteArray)).bind fun t285 => (some (t285 == 1)))) else (some false)))) = some r := H
              have A22 := Aside0.mk A220
              clear A220
              replace H := Option.bind_eq_some_iff.mp H
              obtain ⟨⟨t278, t279, t280⟩, A230, H⟩ := H
              obtain ⟨rfl, rfl, rfl⟩ : t260 = t278 ∧ t261 = t279 ∧ t262 = t280 := same3 A13.out A230
              replace H : ((relate_Order.f kj7 t275 t276 t277 t260 t261 t262).bind fun t281 => (if t281 = (-1) then ((abacuslaw18_str.f a0).bind fun bt282 => ((relate_Order.f kj7 bt282.1 bt282.2.1 bt282.2.2 0 0 (⟨#[]⟩ : ByteArray)).bind fun t285 => (some (t285 == 1)))) else (some false))) = some r := H
              have A23 := Aside0.mk A230
              clear A230
              replace H := Option.bind_eq_some_iff.mp H
              obtain ⟨t281, A240, H⟩ := H
              replace H : (if t281 = (-1) then ((abacuslaw18_str.f a0).bind fun bt282 => ((relate_Order.f kj7 bt282.1 bt282.2.1 bt282.2.2 0 0 (⟨#[]⟩ : ByteArray)).bind fun t285 => (some (t285 == 1)))) else (some false)) = some r := H
              have A24 := Aside0.mk A240
              clear A240
              by_cases c25 : t281 = (-1)
              · rw [if_pos c25] at H
                have c25b0 : (t281 == (-1)) = true := beq_iff_eq.mpr c25
                have c25b1 : (t281 != (-1)) = false := bne_eq_false_iff_eq.mpr c25
                clear c25
                replace H := Option.bind_eq_some_iff.mp H
                obtain ⟨⟨t282, t283, t284⟩, A260, H⟩ := H
                obtain ⟨rfl, rfl, rfl⟩ : t260 = t282 ∧ t261 = t283 ∧ t262 = t284 := same3 A13.out A260
                replace H : ((relate_Order.f kj7 t260 t261 t262 0 0 (⟨#[]⟩ : ByteArray)).bind fun t285 => (some (t285 == 1))) = some r := H
                have A26 := Aside0.mk A260
                clear A260
                replace H := Option.bind_eq_some_iff.mp H
                obtain ⟨t285, A270, H⟩ := H
                replace H : (some (t285 == 1)) = some r := H
                have A27 := Aside0.mk A270
                clear A270
                obtain rfl := Option.some.inj H
                go_wp2_with (first | ((with_reducible refine gate_callee (f := 18) rfl ?_); refine goesL_ (some 24) rfl rfl Tryz.func18 (by kernel_rfl) rfl #[.string a0] rfl (by (try simp only [List.map_toArray, List.map_cons, List.map_nil]); first | done | rfl | (simp only [List.length_drop, List.length_take]; rfl)) ?_; (with_reducible refine (abacuslaw18_str.calls a0 t260 t261 t262 _ A13.out).mono ?_); rintro e w28 ⟨rfl, hb⟩; refine ⟨_, rfl, ?_⟩; have n0_ := Aside0.mk (below_step (by repeat (first | (with_reducible first | exact HB.out | apply below_alloc | apply pw_below_drewN | apply below_drew1) | exact HB.out)) hb); clear HB; have HB := n0_; clear n0_; (try clear hb); (try clear hb2); (try clear hk); (try clear hi)) | ((with_reducible refine gate_callee (f := 18) rfl ?_); refine goesL_ (some 26) rfl rfl Tryz.func18 (by kernel_rfl) rfl #[.string a1] rfl (by (try simp only [List.map_toArray, List.map_cons, List.map_nil]); first | done | rfl | (simp only [List.length_drop, List.length_take]; rfl)) ?_; (with_reducible refine (abacuslaw18_str.calls a1 t263 t264 t265 _ A14.out).mono ?_); rintro e w29 ⟨rfl, hb⟩; refine ⟨_, rfl, ?_⟩; have n0_ := Aside0.mk (below_step (by repeat (first | (with_reducible first | exact HB.out | apply below_alloc | apply pw_below_drewN | apply below_drew1) | exact HB.out)) hb); clear HB; have HB := n0_; clear n0_; (try clear hb); (try clear hb2); (try clear hk); (try clear hi)) | ((with_reducible refine gate_callee (f := 17) rfl ?_); refine goesL_ (some 28) rfl rfl Tryz.func17 (by kernel_rfl) rfl #[.agg #[.int .i64 t260, .int .u64 t261, .string t262], .agg #[.int .i64 t263, .int .u64 t264, .string t265], .string a2] rfl (by (try simp only [List.map_toArray, List.map_cons, List.map_nil]); first | done | rfl | (simp only [List.length_drop, List.length_take]; rfl)) ?_; (with_reducible refine (relate_Compare.calls kj7 t260 t261 t262 t263 t264 t265 a2 t266 t267 _ A15.out).mono ?_); rintro e w30 ⟨rfl, hb⟩; refine ⟨_, rfl, ?_⟩; have n0_ := Aside0.mk (below_step (by repeat (first | (with_reducible first | exact HB.out | apply below_alloc | apply pw_below_drewN | apply below_drew1) | exact HB.out)) hb); clear HB; have HB := n0_; clear n0_; (try clear hb); (try clear hb2); (try clear hk); (try clear hi)) | (go_at_call 18; (with_reducible refine (abacuslaw18_str.calls a0 t260 t261 t262 _ A18.out).mono ?_); rintro e w31 ⟨rfl, hb⟩; have n0_ := Aside0.mk (below_step (by repeat (first | (with_reducible first | exact HB.out | apply below_alloc | apply pw_below_drewN | apply below_drew1) | exact HB.out)) hb); clear HB; have HB := n0_; clear n0_; (try clear hb); (try clear hb2); (try clear hk); (try clear hi)) | (go_at_call 18; (with_reducible refine (abacuslaw18_str.calls a1 t263 t264 t265 _ A19.out).mono ?_); rintro e w32 ⟨rfl, hb⟩; have n0_ := Aside0.mk (below_step (by repeat (first | (with_reducible first | exact HB.out | apply below_alloc | apply pw_below_drewN | apply below_drew1) | exact HB.out)) hb); clear HB; have HB := n0_; clear n0_; (try clear hb); (try clear hb2); (try clear hk); (try clear hi)) | (go_at_call 19; (with_reducible refine (relate_Order.calls kj7 t260 t261 t262 t263 t264 t265 t274 _ A20.out).mono ?_); rintro e w33 ⟨rfl, hb⟩; have n0_ := Aside0.mk (below_step (by repeat (first | (with_reducible first | exact HB.out | apply below_alloc | apply pw_below_drewN | apply below_drew1) | exact HB.out)) hb); clear HB; have HB := n0_; clear n0_; (try clear hb); (try clear hb2); (try clear hk); (try clear hi)) | (go_at_call 20; (with_reducible refine (abacuslaw18_num.calls a3 t275 t276 t277 _ A22.out).mono ?_); rintro e w34 ⟨rfl, hb⟩; have n0_ := Aside0.mk (below_step (by repeat (first | (with_reducible first | exact HB.out | apply below_alloc | apply pw_below_drewN | apply below_drew1) | exact HB.out)) hb); clear HB; have HB := n0_; clear n0_; (try clear hb); (try clear hb2); (try clear hk); (try clear hi)) | (go_at_call 18; (with_reducible refine (abacuslaw18_str.calls a0 t260 t261 t262 _ A23.out).mono ?_); rintro e w35 ⟨rfl, hb⟩; have n0_ := Aside0.mk (below_step (by repeat (first | (with_reducible first | exact HB.out | apply below_alloc | apply pw_below_drewN | apply below_drew1) | exact HB.out)) hb); clear HB; have HB := n0_; clear n0_; (try clear hb); (try clear hb2); (try clear hk); (try clear hi)) | (go_at_call 19; (with_reducible refine (relate_Order.calls kj7 t275 t276 t277 t260 t261 t262 t281 _ A24.out).mono ?_); rintro e w36 ⟨rfl, hb⟩; have n0_ := Aside0.mk (below_step (by repeat (first | (with_reducible first | exact HB.out | apply below_alloc | apply pw_below_drewN | apply below_drew1) | exact HB.out)) hb); clear HB; have HB := n0_; clear n0_; (try clear hb); (try clear hb2); (try clear hk); (try clear hi)) | (go_at_call 18; (with_reducible refine (abacuslaw18_str.calls a0 t260 t261 t262 _ A26.out).mono ?_); rintro e w37 ⟨rfl, hb⟩; have n0_ := Aside0.mk (below_step (by repeat (first | (with_reducible first | exact HB.out | apply below_alloc | apply pw_below_drewN | apply below_drew1) | exact HB.out)) hb); clear HB; have HB := n0_; clear n0_; (try clear hb); (try clear hb2); (try clear hk); (try clear hi)) | (go_at_call 19; (with_reducible refine (relate_Order.calls kj7 t260 t261 t262 0 0 (⟨#[]⟩ : ByteArray) t285 _ A27.out).mono ?_); rintro e w38 ⟨rfl, hb⟩; have n0_ := Aside0.mk (below_step (by repeat (first | (with_reducible first | exact HB.out | apply below_alloc | apply pw_below_drewN | apply below_drew1) | exact HB.out)) hb); clear HB; have HB := n0_; clear n0_; (try clear hb); (try clear hb2); (try clear hk); (try clear hi)))
                go_ret
                exact ⟨by first | rfl | (simp [errW_none, errW_some] <;> rfl) | (simp only [append_nothing]; done) | (simp only [append_nothing]; rfl) | (simp [*, errW_none, errW_some] <;> rfl), by repeat (first | (with_reducible first | exact HB.out | apply below_alloc | apply pw_below_drewN | apply below_drew1) | exact HB.out)⟩
              · rw [if_neg c25] at H
                have c25b0 : (t281 == (-1)) = false := beq_eq_false_iff_ne.mpr c25
                have c25b1 : (t281 != (-1)) = true := bne_iff_ne.mpr c25
                obtain rfl := Option.some.inj H
                go_wp2_with (first | ((with_reducible refine gate_callee (f := 18) rfl ?_); refine goesL_ (some 24) rfl rfl Tryz.func18 (by kernel_rfl) rfl #[.string a0] rfl (by (try simp only [List.map_toArray, List.map_cons, List.map_nil]); first | done | rfl | (simp only [List.length_drop, List.length_take]; rfl)) ?_; (with_reducible refine (abacuslaw18_str.calls a0 t260 t261 t262 _ A13.out).mono ?_); rintro e w39 ⟨rfl, hb⟩; refine ⟨_, rfl, ?_⟩; have n0_ := Aside0.mk (below_step (by repeat (first | (with_reducible first | exact HB.out | apply below_alloc | apply pw_below_drewN | apply below_drew1) | exact HB.out)) hb); clear HB; have HB := n0_; clear n0_; (try clear hb); (try clear hb2); (try clear hk); (try clear hi)) | ((with_reducible refine gate_callee (f := 18) rfl ?_); refine goesL_ (some 26) rfl rfl Tryz.func18 (by kernel_rfl) rfl #[.string a1] rfl (by (try simp only [List.map_toArray, List.map_cons, List.map_nil]); first | done | rfl | (simp only [List.length_drop, List.length_take]; rfl)) ?_; (with_reducible refine (abacuslaw18_str.calls a1 t263 t264 t265 _ A14.out).mono ?_); rintro e w40 ⟨rfl, hb⟩; refine ⟨_, rfl, ?_⟩; have n0_ := Aside0.mk (below_step (by repeat (first | (with_reducible first | exact HB.out | apply below_alloc | apply pw_below_drewN | apply below_drew1) | exact HB.out)) hb); clear HB; have HB := n0_; clear n0_; (try clear hb); (try clear hb2); (try clear hk); (try clear hi)) | ((with_reducible refine gate_callee (f := 17) rfl ?_); refine goesL_ (some 28) rfl rfl Tryz.func17 (by kernel_rfl) rfl #[.agg #[.int .i64 t260, .int .u64 t261, .string t262], .agg #[.int .i64 t263, .int .u64 t264, .string t265], .string a2] rfl (by (try simp only [List.map_toArray, List.map_cons, List.map_nil]); first | done | rfl | (simp only [List.length_drop, List.length_take]; rfl)) ?_; (with_reducible refine (relate_Compare.calls kj7 t260 t261 t262 t263 t264 t265 a2 t266 t267 _ A15.out).mono ?_); rintro e w41 ⟨rfl, hb⟩; refine ⟨_, rfl, ?_⟩; have n0_ := Aside0.mk (below_step (by repeat (first | (with_reducible first | exact HB.out | apply below_alloc | apply pw_below_drewN | apply below_drew1) | exact HB.out)) hb); clear HB; have HB := n0_; clear n0_; (try clear hb); (try clear hb2); (try clear hk); (try clear hi)) | (go_at_call 18; (with_reducible refine (abacuslaw18_str.calls a0 t260 t261 t262 _ A18.out).mono ?_); rintro e w42 ⟨rfl, hb⟩; have n0_ := Aside0.mk (below_step (by repeat (first | (with_reducible first | exact HB.out | apply below_alloc | apply pw_below_drewN | apply below_drew1) | exact HB.out)) hb); clear HB; have HB := n0_; clear n0_; (try clear hb); (try clear hb2); (try clear hk); (try clear hi)) | (go_at_call 18; (with_reducible refine (abacuslaw18_str.calls a1 t263 t264 t265 _ A19.out).mono ?_); rintro e w43 ⟨rfl, hb⟩; have n0_ := Aside0.mk (below_step (by repeat (first | (with_reducible first | exact HB.out | apply below_alloc | apply pw_below_drewN | apply below_drew1) | exact HB.out)) hb); clear HB; have HB := n0_; clear n0_; (try clear hb); (try clear hb2); (try clear hk); (try clear hi)) | (go_at_call 19; (with_reducible refine (relate_Order.calls kj7 t260 t261 t262 t263 t264 t265 t274 _ A20.out).mono ?_); rintro e w44 ⟨rfl, hb⟩; have n0_ := Aside0.mk (below_step (by repeat (first | (with_reducible first | exact HB.out | apply below_alloc | apply pw_below_drewN | apply below_drew1) | exact HB.out)) hb); clear HB; have HB := n0_; clear n0_; (try clear hb); (try clear hb2); (try clear hk); (try clear hi)) | (go_at_call 20; (with_reducible refine (abacuslaw18_num.calls a3 t275 t276 t277 _ A22.out).mono ?_); rintro e w45 ⟨rfl, hb⟩; have n0_ := Aside0.mk (below_step (by repeat (first | (with_reducible first | exact HB.out | apply below_alloc | apply pw_below_drewN | apply below_drew1) | exact HB.out)) hb); clear HB; have HB := n0_; clear n0_; (try clear hb); (try clear hb2); (try clear hk); (try clear hi)) | (go_at_call 18; (with_reducible refine (abacuslaw18_str.calls a0 t260 t261 t262 _ A23.out).mono ?_); rintro e w46 ⟨rfl, hb⟩; have n0_ := Aside0.mk (below_step (by repeat (first | (with_reducible first | exact HB.out | apply below_alloc | apply pw_below_drewN | apply below_drew1) | exact HB.out)) hb); clear HB; have HB := n0_; clear n0_; (try clear hb); (try clear hb2); (try clear hk); (try clear hi)) | (go_at_call 19; (with_reducible refine (relate_Order.calls kj7 t275 t276 t277 t260 t261 t262 t281 _ A24.out).mono ?_); rintro e w47 ⟨rfl, hb⟩; have n0_ := Aside0.mk (below_step (by repeat (first | (with_reducible first | exact HB.out | apply below_alloc | apply pw_below_drewN | apply below_drew1) | exact HB.out)) hb); clear HB; have HB := n0_; clear n0_; (try clear hb); (try clear hb2); (try clear hk); (try clear hi)))
                go_ret
                exact ⟨by first | rfl | (simp [errW_none, errW_some] <;> rfl) | (simp only [append_nothing]; done) | (simp only [append_nothing]; rfl) | (simp [*, errW_none, errW_some] <;> rfl), by repeat (first | (with_reducible first | exact HB.out | apply below_alloc | apply pw_below_drewN | apply below_drew1) | exact HB.out)⟩
            · rw [if_neg c21] at H
              have c21b0 : (t274 == x10_7) = false := beq_eq_false_iff_ne.mpr c21
              have c21b1 : (t274 != x10_7) = true := bne_iff_ne.mpr c21
              obtain rfl := Option.some.inj H
              go_wp2_with (first | ((with_reducible refine gate_callee (f := 18) rfl ?_); refine goesL_ (some 24) rfl rfl Tryz.func18 (by kernel_rfl) rfl #[.string a0] rfl (by (try simp only [List.map_toArray, List.map_cons, List.map_nil]); first | done | rfl | (simp only [List.length_drop, List.length_take]; rfl)) ?_; (with_reducible refine (abacuslaw18_str.calls a0 t260 t261 t262 _ A13.out).mono ?_); rintro e w48 ⟨rfl, hb⟩; refine ⟨_, rfl, ?_⟩; have n0_ := Aside0.mk (below_step (by repeat (first | (with_reducible first | exact HB.out | apply below_alloc | apply pw_below_drewN | apply below_drew1) | exact HB.out)) hb); clear HB; have HB := n0_; clear n0_; (try clear hb); (try clear hb2); (try clear hk); (try clear hi)) | ((with_reducible refine gate_callee (f := 18) rfl ?_); refine goesL_ (some 26) rfl rfl Tryz.func18 (by kernel_rfl) rfl #[.string a1] rfl (by (try simp only [List.map_toArray, List.map_cons, List.map_nil]); first | done | rfl | (simp only [List.length_drop, List.length_take]; rfl)) ?_; (with_reducible refine (abacuslaw18_str.calls a1 t263 t264 t265 _ A14.out).mono ?_); rintro e w49 ⟨rfl, hb⟩; refine ⟨_, rfl, ?_⟩; have n0_ := Aside0.mk (below_step (by repeat (first | (with_reducible first | exact HB.out | apply below_alloc | apply pw_below_drewN | apply below_drew1) | exact HB.out)) hb); clear HB; have HB := n0_; clear n0_; (try clear hb); (try clear hb2); (try clear hk); (try clear hi)) | ((with_reducible refine gate_callee (f := 17) rfl ?_); refine goesL_ (some 28) rfl rfl Tryz.func17 (by kernel_rfl) rfl #[.agg #[.int .i64 t260, .int .u64 t261, .string t262], .agg #[.int .i64 t263, .int .u64 t264, .string t265], .string a2] rfl (by (try simp only [List.map_toArray, List.map_cons, List.map_nil]); first | done | rfl | (simp only [List.length_drop, List.length_take]; rfl)) ?_; (with_reducible refine (relate_Compare.calls kj7 t260 t261 t262 t263 t264 t265 a2 t266 t267 _ A15.out).mono ?_); rintro e w50 ⟨rfl, hb⟩; refine ⟨_, rfl, ?_⟩; have n0_ := Aside0.mk (below_step (by repeat (first | (with_reducible first | exact HB.out | apply below_alloc | apply pw_below_drewN | apply below_drew1) | exact HB.out)) hb); clear HB; have HB := n0_; clear n0_; (try clear hb); (try clear hb2); (try clear hk); (try clear hi)) | (go_at_call 18; (with_reducible refine (abacuslaw18_str.calls a0 t260 t261 t262 _ A18.out).mono ?_); rintro e w51 ⟨rfl, hb⟩; have n0_ := Aside0.mk (below_step (by repeat (first | (with_reducible first | exact HB.out | apply below_alloc | apply pw_below_drewN | apply below_drew1) | exact HB.out)) hb); clear HB; have HB := n0_; clear n0_; (try clear hb); (try clear hb2); (try clear hk); (try clear hi)) | (go_at_call 18; (with_reducible refine (abacuslaw18_str.calls a1 t263 t264 t265 _ A19.out).mono ?_); rintro e w52 ⟨rfl, hb⟩; have n0_ := Aside0.mk (below_step (by repeat (first | (with_reducible first | exact HB.out | apply below_alloc | apply pw_below_drewN | apply below_drew1) | exact HB.out)) hb); clear HB; have HB := n0_; clear n0_; (try clear hb); (try clear hb2); (try clear hk); (try clear hi)) | (go_at_call 19; (with_reducible refine (relate_Order.calls kj7 t260 t261 t262 t263 t264 t265 t274 _ A20.out).mono ?_); rintro e w53 ⟨rfl, hb⟩; have n0_ := Aside0.mk (below_step (by repeat (first | (with_reducible first | exact HB.out | apply below_alloc | apply pw_below_drewN | apply below_drew1) | exact HB.out)) hb); clear HB; have HB := n0_; clear n0_; (try clear hb); (try clear hb2); (try clear hk); (try clear hi)))
              go_ret
              exact ⟨by first | rfl | (simp [errW_none, errW_some] <;> rfl) | (simp only [append_nothing]; done) | (simp only [append_nothing]; rfl) | (simp [*, errW_none, errW_some] <;> rfl), by repeat (first | (with_reducible first | exact HB.out | apply below_alloc | apply pw_below_drewN | apply below_drew1) | exact HB.out)⟩
          · rw [if_neg c17] at H
            have c17b0 : (t267 == 0) = false := beq_eq_false_iff_ne.mpr c17
            have c17b1 : (t267 != 0) = true := bne_iff_ne.mpr c17
            obtain rfl := Option.some.inj H
            go_wp2_with (first | ((with_reducible refine gate_callee (f := 18) rfl ?_); refine goesL_ (some 24) rfl rfl Tryz.func18 (by kernel_rfl) rfl #[.string a0] rfl (by (try simp only [List.map_toArray, List.map_cons, List.map_nil]); first | done | rfl | (simp only [List.length_drop, List.length_take]; rfl)) ?_; (with_reducible refine (abacuslaw18_str.calls a0 t260 t261 t262 _ A13.out).mono ?_); rintro e w54 ⟨rfl, hb⟩; refine ⟨_, rfl, ?_⟩; have n0_ := Aside0.mk (below_step (by repeat (first | (with_reducible first | exact HB.out | apply below_alloc | apply pw_below_drewN | apply below_drew1) | exact HB.out)) hb); clear HB; have HB := n0_; clear n0_; (try clear hb); (try clear hb2); (try clear hk); (try clear hi)) | ((with_reducible refine gate_callee (f := 18) rfl ?_); refine goesL_ (some 26) rfl rfl Tryz.func18 (by kernel_rfl) rfl #[.string a1] rfl (by (try simp only [List.map_toArray, List.map_cons, List.map_nil]); first | done | rfl | (simp only [List.length_drop, List.length_take]; rfl)) ?_; (with_reducible refine (abacuslaw18_str.calls a1 t263 t264 t265 _ A14.out).mono ?_); rintro e w55 ⟨rfl, hb⟩; refine ⟨_, rfl, ?_⟩; have n0_ := Aside0.mk (below_step (by repeat (first | (with_reducible first | exact HB.out | apply below_alloc | apply pw_below_drewN | apply below_drew1) | exact HB.out)) hb); clear HB; have HB := n0_; clear n0_; (try clear hb); (try clear hb2); (try clear hk); (try clear hi)) | ((with_reducible refine gate_callee (f := 17) rfl ?_); refine goesL_ (some 28) rfl rfl Tryz.func17 (by kernel_rfl) rfl #[.agg #[.int .i64 t260, .int .u64 t261, .string t262], .agg #[.int .i64 t263, .int .u64 t264, .string t265], .string a2] rfl (by (try simp only [List.map_toArray, List.map_cons, List.map_nil]); first | done | rfl | (simp only [List.length_drop, List.length_take]; rfl)) ?_; (with_reducible refine (relate_Compare.calls kj7 t260 t261 t262 t263 t264 t265 a2 t266 t267 _ A15.out).mono ?_); rintro e w56 ⟨rfl, hb⟩; refine ⟨_, rfl, ?_⟩; have n0_ := Aside0.mk (below_step (by repeat (first | (with_reducible first | exact HB.out | apply below_alloc | apply pw_below_drewN | apply below_drew1) | exact HB.out)) hb); clear HB; have HB := n0_; clear n0_; (try clear hb); (try clear hb2); (try clear hk); (try clear hi)))
            go_ret
            exact ⟨by first | rfl | (simp [errW_none, errW_some] <;> rfl) | (simp only [append_nothing]; done) | (simp only [append_nothing]; rfl) | (simp [*, errW_none, errW_some] <;> rfl), by repeat (first | (with_reducible first | exact HB.out | apply below_alloc | apply pw_below_drewN | apply below_drew1) | exact HB.out)⟩
        · rw [if_neg c16] at H
          have c16b0 : (t266 == x10_7) = false := beq_eq_false_iff_ne.mpr c16
          have c16b1 : (t266 != x10_7) = true := bne_iff_ne.mpr c16
          obtain rfl := Option.some.inj H
          go_wp2_with (first | ((with_reducible refine gate_callee (f := 18) rfl ?_); refine goesL_ (some 24) rfl rfl Tryz.func18 (by kernel_rfl) rfl #[.string a0] rfl (by (try simp only [List.map_toArray, List.map_cons, List.map_nil]); first | done | rfl | (simp only [List.length_drop, List.length_take]; rfl)) ?_; (with_reducible refine (abacuslaw18_str.calls a0 t260 t261 t262 _ A13.out).mono ?_); rintro e w57 ⟨rfl, hb⟩; refine ⟨_, rfl, ?_⟩; have n0_ := Aside0.mk (below_step (by repeat (first | (with_reducible first | exact HB.out | apply below_alloc | apply pw_below_drewN | apply below_drew1) | exact HB.out)) hb); clear HB; have HB := n0_; clear n0_; (try clear hb); (try clear hb2); (try clear hk); (try clear hi)) | ((with_reducible refine gate_callee (f := 18) rfl ?_); refine goesL_ (some 26) rfl rfl Tryz.func18 (by kernel_rfl) rfl #[.string a1] rfl (by (try simp only [List.map_toArray, List.map_cons, List.map_nil]); first | done | rfl | (simp only [List.length_drop, List.length_take]; rfl)) ?_; (with_reducible refine (abacuslaw18_str.calls a1 t263 t264 t265 _ A14.out).mono ?_); rintro e w58 ⟨rfl, hb⟩; refine ⟨_, rfl, ?_⟩; have n0_ := Aside0.mk (below_step (by repeat (first | (with_reducible first | exact HB.out | apply below_alloc | apply pw_below_drewN | apply below_drew1) | exact HB.out)) hb); clear HB; have HB := n0_; clear n0_; (try clear hb); (try clear hb2); (try clear hk); (try clear hi)) | ((with_reducible refine gate_callee (f := 17) rfl ?_); refine goesL_ (some 28) rfl rfl Tryz.func17 (by kernel_rfl) rfl #[.agg #[.int .i64 t260, .int .u64 t261, .string t262], .agg #[.int .i64 t263, .int .u64 t264, .string t265], .string a2] rfl (by (try simp only [List.map_toArray, List.map_cons, List.map_nil]); first | done | rfl | (simp only [List.length_drop, List.length_take]; rfl)) ?_; (with_reducible refine (relate_Compare.calls kj7 t260 t261 t262 t263 t264 t265 a2 t266 t267 _ A15.out).mono ?_); rintro e w59 ⟨rfl, hb⟩; refine ⟨_, rfl, ?_⟩; have n0_ := Aside0.mk (below_step (by repeat (first | (with_reducible first | exact HB.out | apply below_alloc | apply pw_below_drewN | apply below_drew1) | exact HB.out)) hb); clear HB; have HB := n0_; clear n0_; (try clear hb); (try clear hb2); (try clear hk); (try clear hi)))
          go_ret
          exact ⟨by first | rfl | (simp [errW_none, errW_some] <;> rfl) | (simp only [append_nothing]; done) | (simp only [append_nothing]; rfl) | (simp [*, errW_none, errW_some] <;> rfl), by repeat (first | (with_reducible first | exact HB.out | apply below_alloc | apply pw_below_drewN | apply below_drew1) | exact HB.out)⟩
  · replace c6 := Bool.eq_false_iff.mpr c6
    subst c6
    have H1 : (some false) = some r := by rw [if_neg (show ¬ (false = true) by decide)] at H; exact H
    clear H
    have H := H1
    clear H1
    obtain rfl := Option.some.inj H
    go_enter Tryz.func3, Tryz.ntmps3
    go_wp2_with (first | ((with_reducible refine gate_callee (f := 15) rfl ?_); refine goesL_ (some 13) rfl rfl Tryz.func15 (by kernel_rfl) rfl #[] rfl (by (try simp only [List.map_toArray, List.map_cons, List.map_nil]); first | done | rfl | (simp only [List.length_drop, List.length_take]; rfl)) ?_; (with_reducible refine (abacuslaw18_awake.calls k  false _ A5.out).mono ?_); rintro e w60 ⟨rfl, hb⟩; refine ⟨_, rfl, ?_⟩; have n0_ := Aside0.mk (below_step (by repeat (first | (with_reducible first | exact HB.out | apply below_alloc | apply pw_below_drewN | apply below_drew1) | exact HB.out)) hb); clear HB; have HB := n0_; clear n0_; (try clear hb); (try clear hb2); (try clear hk); (try clear hi)))
    go_ret
    exact ⟨by first | rfl | (simp [errW_none, errW_some] <;> rfl) | (simp only [append_nothing]; done) | (simp only [append_nothing]; rfl) | (simp [*, errW_none, errW_some] <;> rfl), by repeat (first | (with_reducible first | exact HB.out | apply below_alloc | apply pw_below_drewN | apply below_drew1) | exact HB.out)⟩

/-- THE ONE PURE STATEMENT of abacuslaw18_RelateTexts: yours. -/
def abacuslaw18_RelateTexts.Pure : Prop := ∀ (a0 : ByteArray) (a1 : ByteArray) (a2 : ByteArray) (a3 : Int), a0.size ≤ 140737488351232 → a1.size ≤ 140737488351232 → a2.size ≤ 140737488351232 → (Lit.int .u64 a3).wf = true → ∃ k, abacuslaw18_RelateTexts.f k a0 a1 a2 a3 = some true
end Go.Proofs.YtoanmnhkhookfaaGreatDoor.PXRelateTexts
