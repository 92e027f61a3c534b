/- The machine's side of a law, printed by a program of this session out of the translation; conditions: none. -/
import Derived.Test.YtoanmnhkhookfaaGreatDoorEval
import Derived.Test.YtoanmnhkhookfaaGreatDoorPXRelateTextsx0
import Derived.Test.YtoanmnhkhookfaaGreatDoorPXRelateTextsx5
import Derived.Test.YtoanmnhkhookfaaGreatDoorPXRelateTextsx6
import Derived.Test.YtoanmnhkhookfaaGreatDoorPXRelateTextsx7
namespace Go.Proofs.YtoanmnhkhookfaaGreatDoor.PXRelateTexts
open Go.Proofs.YtoanmnhkhookfaaGreatDoor
open Go.RowKit Go.Proofs.YtoanmnhkhookfaaGreatDoorW.PrintWords Go.Proofs.YtoanmnhkhookfaaGreatDoorW.PrintLast Go.Proofs.YtoanmnhkhookfaaGreatDoorW.PrintMore
attribute [local go_sem] max2_int min2_int max_two min_two max_three min_three max_four min_four   -- for this text's walks alone
set_option linter.unusedVariables false
set_option linter.unusedSimpArgs false

theorem phAwake_1 {P : Prop} (h : P := by repeat (first | (with_reducible first | exact HB.out | apply below_alloc | apply pw_below_drewN | apply below_drew1) | exact HB.out)) : P := h
theorem phAwake_2 {P : Prop} (h : P := by (try simp only [List.map_toArray, List.map_cons, List.map_nil]); first | done | rfl | (simp only [List.length_drop, List.length_take]; rfl)) : P := h
theorem phAwake_3 {P : Prop} (h : P := by first | (with_reducible assumption) | assumption) : P := h
theorem phAwake_4 {P : Prop} (h : P := by first | rfl | (simp [errW_none, errW_some] <;> rfl) | (simp only [append_nothing]; done) | (simp only [append_nothing]; rfl) | (simp [*, errW_none, errW_some] <;> rfl)) : P := h
theorem phAwake_5 {P : Prop} (h : P := by (with_reducible repeat (first | apply Kd.R_alloc | apply Kd.R_drewN | apply Kd.R_drew)); exact HO249.out) : P := h
/-! ### abacuslaw18_awake: function 15 -/
def abacuslaw18_awake.j0 : Nat → Bool → Option (Bool)
  | 0, _ => none
  | k + 1, x31 => if x31 = true then (some false) else ((abacuslaw18_str.f (⟨#[98]⟩ : ByteArray)).bind fun bt238 => ((abacuslaw18_num.f 4607182418800017408).bind fun bt241 => ((abacuslaw18_str.f (⟨#[97]⟩ : ByteArray)).bind fun bt244 => ((relate_Sort.f (([(⟨bt238.1, bt238.2.1, bt238.2.2⟩ : S29), (⟨bt241.1, bt241.2.1, bt241.2.2⟩ : S29), (⟨bt244.1, bt244.2.1, bt244.2.2⟩ : S29)] : List (S29)))).bind fun t250 => (if (t250.length : Int) = 3 then (if 0 < (t250.length : Int) then (if (rd t250 0) = 1 then (if 1 < (t250.length : Int) then (if (rd t250 1) = 2 then (if 2 < (t250.length : Int) then (if (rd t250 2) = 0 then ((abacuslaw18_queued.f).bind fun t256 => (some t256)) else (some false)) else (none)) else (some false)) else (none)) else (some false)) else (none)) else (some false))))))
def abacuslaw18_awake.f (k : Nat)  : Option (Bool) := (abacuslaw18_str.f (⟨#[49, 48]⟩ : ByteArray)).bind fun bt222 => ((abacuslaw18_num.f 4621256167635550208).bind fun bt225 => ((relate_Compare.f k bt222.1 bt222.2.1 bt222.2.2 bt225.1 bt225.2.1 bt225.2.2 (⟨#[37, 46, 54, 103]⟩ : ByteArray)).bind fun bt228 => ((abacuslaw18_num.f 4611686018427387904).bind fun bt230 => ((abacuslaw18_num.f 4607182418800017408).bind fun bt233 => ((relate_Holds.f k 5 bt230.1 bt230.2.1 bt230.2.2 bt233.1 bt233.2.1 bt233.2.2 (⟨#[]⟩ : ByteArray)).bind fun bt236 => (if bt228.1 = (-1) then (if bt228.2 = 0 then (if bt236.1 = true then (abacuslaw18_awake.j0 k (bt236.2 != 0)) else (abacuslaw18_awake.j0 k true)) else (abacuslaw18_awake.j0 k true)) else (abacuslaw18_awake.j0 k true)))))))
theorem abacuslaw18_awake.mono_l : ∀ k, (∀ y0, LeO (abacuslaw18_awake.j0 k y0) (abacuslaw18_awake.j0 (k + 1) y0))
  | 0 => fun _ r h => by simp [abacuslaw18_awake.j0] at h
  | k + 1 => by
    have ih0 := abacuslaw18_awake.mono_l k
    · intro y0
      unfold abacuslaw18_awake.j0
      repeat' first
      | (with_reducible exact ih0 _)
      | (with_reducible exact relate_Compare.mono _ _ _ _ _ _ _ _)
      | (with_reducible exact relate_Holds.mono _ _ _ _ _ _ _ _ _)
      | (with_reducible exact LeO.refl _)
      | (with_reducible exact LeO.none _)
      | (with_reducible refine LeO.ite ?_ ?_)
      | (with_reducible refine LeO.bind ?_ (fun _ => ?_))
      | exact ih0 _
      | exact relate_Compare.mono _ _ _ _ _ _ _ _
      | exact relate_Holds.mono _ _ _ _ _ _ _ _ _
      | exact LeO.none _
      | refine LeO.ite ?_ ?_
      | refine LeO.bind ?_ (fun _ => ?_)
theorem abacuslaw18_awake.mono : ∀ k, LeO (abacuslaw18_awake.f k ) (abacuslaw18_awake.f (k + 1) ) := by
  intro  k
  have ih0 := abacuslaw18_awake.mono_l k
  unfold abacuslaw18_awake.f
  repeat' first
      | (with_reducible exact ih0 _)
      | (with_reducible exact relate_Compare.mono _ _ _ _ _ _ _ _)
      | (with_reducible exact relate_Holds.mono _ _ _ _ _ _ _ _ _)
      | (with_reducible exact LeO.refl _)
      | (with_reducible exact LeO.none _)
      | (with_reducible refine LeO.ite ?_ ?_)
      | (with_reducible refine LeO.bind ?_ (fun _ => ?_))
      | exact ih0 _
      | exact relate_Compare.mono _ _ _ _ _ _ _ _
      | exact relate_Holds.mono _ _ _ _ _ _ _ _ _
      | exact LeO.none _
      | refine LeO.ite ?_ ?_
      | refine LeO.bind ?_ (fun _ => ?_)
theorem abacuslaw18_awake.w1 {P : Prop} (h : P := by
  go_wp2
  go_meet
  case rel => exact ⟨_, (true), (by first | rfl | (simp; done) | (simp [*]; done)), H', ⟨by first | omega | exact Nat.le_refl _⟩, ⟨by exact phAwake_1⟩⟩) : P := h
set_option maxHeartbeats 8000000 in
set_option maxRecDepth 100000 in
theorem abacuslaw18_awake.calls (k : Nat)  (r : Bool) (w : World) (h : abacuslaw18_awake.f k  = some r) (HG : Aside0 (GW w) := by first | (with_reducible exact HG) | exact ⟨GW.below HG.out (by repeat (first | (with_reducible first | exact HB.out | apply below_alloc | apply pw_below_drewN | apply below_drew1) | (with_reducible refine below_set ?_ (Aside0.out (by assumption))) | exact HB.out | exact Below.refl _ _))⟩ | exact ⟨GW.drewN HG.out _⟩ | exact ⟨GW.drew HG.out⟩ | exact ⟨GW.drewN (GW.drewN HG.out _) _⟩ | exact ⟨GW.drewN (GW.drew HG.out) _⟩) :
    Calls Tryz.prog 15 #[] w fun e w' => e = .returned (.bool r) ∧ Below w.heap.size w w' := by
  have HB := Aside0.mk (Below.refl w.heap.size w)
  have H : ((abacuslaw18_str.f (⟨#[49, 48]⟩ : ByteArray)).bind fun bt222 => ((abacuslaw18_num.f 4621256167635550208).bind fun bt225 => ((relate_Compare.f k bt222.1 bt222.2.1 bt222.2.2 bt225.1 bt225.2.1 bt225.2.2 (⟨#[37, 46, 54, 103]⟩ : ByteArray)).bind fun bt228 => ((abacuslaw18_num.f 4611686018427387904).bind fun bt230 => ((abacuslaw18_num.f 4607182418800017408).bind fun bt233 => ((relate_Holds.f k 5 bt230.1 bt230.2.1 bt230.2.2 bt233.1 bt233.2.1 bt233.2.2 (⟨#[]⟩ : ByteArray)).bind fun bt236 => (if bt228.1 = (-1) then (if bt228.2 = 0 then (if bt236.1 = true then (abacuslaw18_awake.j0 k (bt236.2 != 0)) else (abacuslaw18_awake.j0 k true)) else (abacuslaw18_awake.j0 k true)) else (abacuslaw18_awake.j0 k true)))))))) = some r := h
  clear h
  replace H := Option.bind_eq_some_iff.mp H
  obtain ⟨⟨t222, t223, t224⟩, A10, H⟩ := H
  try dsimp only at H
  have A1 := Aside0.mk A10
  clear A10
  replace H := Option.bind_eq_some_iff.mp H
  obtain ⟨⟨t225, t226, t227⟩, A20, H⟩ := H
  try dsimp only at H
  have A2 := Aside0.mk A20
  clear A20
  replace H := Option.bind_eq_some_iff.mp H
  obtain ⟨⟨t228, t229⟩, A30, H⟩ := H
  try dsimp only at H
  have A3 := Aside0.mk A30
  clear A30
  replace H := Option.bind_eq_some_iff.mp H
  obtain ⟨⟨t230, t231, t232⟩, A40, H⟩ := H
  try dsimp only at H
  have A4 := Aside0.mk A40
  clear A40
  replace H := Option.bind_eq_some_iff.mp H
  obtain ⟨⟨t233, t234, t235⟩, A50, H⟩ := H
  try dsimp only at H
  have A5 := Aside0.mk A50
  clear A50
  replace H := Option.bind_eq_some_iff.mp H
  obtain ⟨⟨t236, t237⟩, A60, H⟩ := H
  try dsimp only at H
  have A6 := Aside0.mk A60
  clear A60
  have HC7 := Aside0.mk H
  clear H
  go_enter Tryz.func15, Tryz.ntmps15
  go_upto_region 3 with (first | ((with_reducible refine gate_callee (f := 18) rfl ?_); refine goesL_ (some 7) rfl rfl Tryz.func18 (by kernel_rfl) rfl #[.string (⟨#[49, 48]⟩ : ByteArray)] rfl (by exact phAwake_2) ?_; (with_reducible refine (abacuslaw18_str.calls (⟨#[49, 48]⟩ : ByteArray) t222 t223 t224 _ A1.out).mono ?_); rintro e w8 ⟨rfl, hb⟩; refine ⟨_, rfl, ?_⟩; have n0_ := Aside0.mk (below_step (by exact phAwake_1) hb); clear HB; have HB := n0_; clear n0_; (try clear hb); (try clear hb2); (try clear hk); (try clear hi)) | ((with_reducible refine gate_callee (f := 20) rfl ?_); refine goesL_ (some 8) rfl rfl Tryz.func20 (by kernel_rfl) rfl #[.int .u64 4621256167635550208] rfl (by exact phAwake_2) ?_; (with_reducible refine (abacuslaw18_num.calls 4621256167635550208 t225 t226 t227 _ A2.out).mono ?_); rintro e w9 ⟨rfl, hb⟩; refine ⟨_, rfl, ?_⟩; have n0_ := Aside0.mk (below_step (by exact phAwake_1) hb); clear HB; have HB := n0_; clear n0_; (try clear hb); (try clear hb2); (try clear hk); (try clear hi)) | ((with_reducible refine gate_callee (f := 17) rfl ?_); refine goesL_ (some 9) rfl rfl Tryz.func17 (by kernel_rfl) rfl #[.agg #[.int .i64 t222, .int .u64 t223, .string t224], .agg #[.int .i64 t225, .int .u64 t226, .string t227], .string (⟨#[37, 46, 54, 103]⟩ : ByteArray)] rfl (by exact phAwake_2) ?_; (with_reducible refine (relate_Compare.calls k t222 t223 t224 t225 t226 t227 (⟨#[37, 46, 54, 103]⟩ : ByteArray) t228 t229 _ A3.out).mono ?_); rintro e w10 ⟨rfl, hb⟩; refine ⟨_, rfl, ?_⟩; have n0_ := Aside0.mk (below_step (by exact phAwake_1) hb); clear HB; have HB := n0_; clear n0_; (try clear hb); (try clear hb2); (try clear hk); (try clear hi)) | ((with_reducible refine gate_callee (f := 20) rfl ?_); refine goesL_ (some 13) rfl rfl Tryz.func20 (by kernel_rfl) rfl #[.int .u64 4611686018427387904] rfl (by exact phAwake_2) ?_; (with_reducible refine (abacuslaw18_num.calls 4611686018427387904 t230 t231 t232 _ A4.out).mono ?_); rintro e w11 ⟨rfl, hb⟩; refine ⟨_, rfl, ?_⟩; have n0_ := Aside0.mk (below_step (by exact phAwake_1) hb); clear HB; have HB := n0_; clear n0_; (try clear hb); (try clear hb2); (try clear hk); (try clear hi)) | ((with_reducible refine gate_callee (f := 20) rfl ?_); refine goesL_ (some 14) rfl rfl Tryz.func20 (by kernel_rfl) rfl #[.int .u64 4607182418800017408] rfl (by exact phAwake_2) ?_; (with_reducible refine (abacuslaw18_num.calls 4607182418800017408 t233 t234 t235 _ A5.out).mono ?_); rintro e w12 ⟨rfl, hb⟩; refine ⟨_, rfl, ?_⟩; have n0_ := Aside0.mk (below_step (by exact phAwake_1) hb); clear HB; have HB := n0_; clear n0_; (try clear hb); (try clear hb2); (try clear hk); (try clear hi)) | ((with_reducible refine gate_callee (f := 50) rfl ?_); refine goesL_ (some 15) rfl rfl Tryz.func50 (by kernel_rfl) rfl #[.int .i64 5, .agg #[.int .i64 t230, .int .u64 t231, .string t232], .agg #[.int .i64 t233, .int .u64 t234, .string t235], .string (⟨#[]⟩ : ByteArray)] rfl (by exact phAwake_2) ?_; (with_reducible refine (relate_Holds.calls k 5 t230 t231 t232 t233 t234 t235 (⟨#[]⟩ : ByteArray) t236 t237 _ A6.out).mono ?_); rintro e w13 ⟨rfl, hb⟩; refine ⟨_, rfl, ?_⟩; have n0_ := Aside0.mk (below_step (by exact phAwake_1) hb); clear HB; have HB := n0_; clear n0_; (try clear hb); (try clear hb2); (try clear hk); (try clear hi)))
  (try simp only [Act.put, List.setIfInBounds_toArray, List.set_cons_zero, List.set_cons_succ])
  go_cut [31] (fun v31 wc => ∃ (kq : Nat) (x31_6 : Bool), v31 = .bool x31_6 ∧ Aside0 (abacuslaw18_awake.j0 kq x31_6 = some r) ∧ Aside0 (kq ≤ k) ∧ Aside0 (Below w.heap.size w wc))
  case first =>
    have H := HC7.out
    clear HC7
    by_cases c14 : t228 = (-1)
    · rw [if_pos c14] at H
      have c14b0 : (t228 == (-1)) = true := beq_iff_eq.mpr c14
      have c14b1 : (t228 != (-1)) = false := bne_eq_false_iff_eq.mpr c14
      clear c14
      (first | rw [c14b0] | (simp only [i64_w, i32_w]; rw [c14b0]) | skip)
      by_cases c15 : t229 = 0
      · rw [if_pos c15] at H
        have c15b0 : (t229 == 0) = true := beq_iff_eq.mpr c15
        have c15b1 : (t229 != 0) = false := bne_eq_false_iff_eq.mpr c15
        clear c15
        by_cases c16 : t236 = true
        · subst c16
          have H1 : (abacuslaw18_awake.j0 k (t237 != 0)) = some r := by rw [if_pos rfl] at H; exact H
          clear H
          have H := H1
          clear H1
          have H' := Aside0.mk H
          clear H
          go_wp2
          go_meet
          case rel => exact ⟨_, ((t237 != 0)), (by first | rfl | (simp; done) | (simp [*]; done)), H', ⟨by first | omega | exact Nat.le_refl _⟩, ⟨by exact phAwake_1⟩⟩
        · replace c16 := Bool.eq_false_iff.mpr c16
          subst c16
          have H1 : (abacuslaw18_awake.j0 k true) = some r := by rw [if_neg (show ¬ (false = true) by decide)] at H; exact H
          clear H
          have H := H1
          clear H1
          have H' := Aside0.mk H
          clear H
          exact abacuslaw18_awake.w1
      · rw [if_neg c15] at H
        have c15b0 : (t229 == 0) = false := beq_eq_false_iff_ne.mpr c15
        have c15b1 : (t229 != 0) = true := bne_iff_ne.mpr c15
        have H' := Aside0.mk H
        clear H
        exact abacuslaw18_awake.w1
    · rw [if_neg c14] at H
      have c14b0 : (t228 == (-1)) = false := beq_eq_false_iff_ne.mpr c14
      have c14b1 : (t228 != (-1)) = true := bne_iff_ne.mpr c14
      (first | rw [c14b0] | (simp only [i64_w, i32_w]; rw [c14b0]) | skip)
      have H' := Aside0.mk H
      clear H
      exact abacuslaw18_awake.w1
  case rest =>
    clear HC7
    try clear c1
    try clear c2
    try clear p2
    try clear c5
    try clear c14
    try clear c14b0
    try clear c14b1
    try clear c15
    try clear c15b0
    try clear c15b1
    try clear c16
    obtain ⟨kq, x31_6, rfl, HA, HJ6, HB⟩ := hcut
    cases kq with
    | zero => exact absurd HA.out (by simp [abacuslaw18_awake.j0])
    | succ kj6 =>
      have H := HA.out
      clear HA
      simp only [abacuslaw18_awake.j0] at H
      by_cases c17 : x31_6 = true
      · subst c17
        have H1 : (some false) = some r := by rw [if_pos rfl] at H; exact H
        clear H
        have H := H1
        clear H1
        obtain rfl := Option.some.inj H
        go_wp2
        go_ret
        exact ⟨by exact phAwake_4, by exact phAwake_1⟩
      · replace c17 := Bool.eq_false_iff.mpr c17
        subst c17
        have H1 : ((abacuslaw18_str.f (⟨#[98]⟩ : ByteArray)).bind fun bt238 => ((abacuslaw18_num.f 4607182418800017408).bind fun bt241 => ((abacuslaw18_str.f (⟨#[97]⟩ : ByteArray)).bind fun bt244 => ((relate_Sort.f (([(⟨bt238.1, bt238.2.1, bt238.2.2⟩ : S29), (⟨bt241.1, bt241.2.1, bt241.2.2⟩ : S29), (⟨bt244.1, bt244.2.1, bt244.2.2⟩ : S29)] : List (S29)))).bind fun t250 => (if (t250.length : Int) = 3 then (if 0 < (t250.length : Int) then (if (rd t250 0) = 1 then (if 1 < (t250.length : Int) then (if (rd t250 1) = 2 then (if 2 < (t250.length : Int) then (if (rd t250 2) = 0 then ((abacuslaw18_queued.f).bind fun t256 => (some t256)) else (some false)) else (none)) else (some false)) else (none)) else (some false)) else (none)) else (some false)))))) = some r := by rw [if_neg (show ¬ (false = true) by decide)] at H; exact H
        clear H
        have H := H1
        clear H1
        replace H := Option.bind_eq_some_iff.mp H
        obtain ⟨⟨t238, t239, t240⟩, A180, H⟩ := H
        try dsimp only at H
        have A18 := Aside0.mk A180
        clear A180
        replace H := Option.bind_eq_some_iff.mp H
        obtain ⟨⟨t241, t242, t243⟩, A190, H⟩ := H
        obtain ⟨rfl, rfl, rfl⟩ : t233 = t241 ∧ t234 = t242 ∧ t235 = t243 := same3 A5.out A190
        try dsimp only at H
        have A19 := Aside0.mk A190
        clear A190
        replace H := Option.bind_eq_some_iff.mp H
        obtain ⟨⟨t244, t245, t246⟩, A200, H⟩ := H
        try dsimp only at H
        have A20 := Aside0.mk A200
        clear A200
        obtain ⟨y247, hy247⟩ : ∃ y_ : List (S29), y_ = (([(⟨t238, t239, t240⟩ : S29), (⟨t233, t234, t235⟩ : S29), (⟨t244, t245, t246⟩ : S29)] : List (S29))) := ⟨_, rfl⟩
        replace H : ((relate_Sort.f y247).bind fun t250 => (if (t250.length : Int) = 3 then (if 0 < (t250.length : Int) then (if (rd t250 0) = 1 then (if 1 < (t250.length : Int) then (if (rd t250 1) = 2 then (if 2 < (t250.length : Int) then (if (rd t250 2) = 0 then ((abacuslaw18_queued.f).bind fun t256 => (some t256)) else (some false)) else (none)) else (some false)) else (none)) else (some false)) else (none)) else (some false))) = some r := by first | (rw [hy247]; with_reducible exact H) | (have H2_ := (Option.bind_some _ _).symm.trans H; rw [hy247]; with_reducible exact H2_) | (have H2_ := (Option.bind_some _ _).symm.trans H; with_reducible exact H2_) | with_reducible exact H | (rw [hy247]; exact H) | exact H
        have Ny247 := Aside0.mk hy247
        clear hy247
        replace H := Option.bind_eq_some_iff.mp H
        obtain ⟨t250, A210, H⟩ := H
        try dsimp only at H
        have A21 := Aside0.mk A210
        clear A210
        by_cases c22 : (t250.length : Int) = 3
        · rw [if_pos c22] at H
          have c22b0 : ((t250.length : Int) == 3) = true := beq_iff_eq.mpr c22
          have c22b1 : ((t250.length : Int) != 3) = false := bne_eq_false_iff_eq.mpr c22
          clear c22
          by_cases c23 : 0 < (t250.length : Int)
          · rw [if_pos c23] at H
            have c23b0 : decide (0 < (t250.length : Int)) = true := decide_eq_true c23
            have c23b1 : decide (0 < t250.length) = true := decide_eq_true (by omega)
            clear c23
            by_cases c24 : (rd t250 0) = 1
            · rw [if_pos c24] at H
              have c24b0 : ((rd t250 0) == 1) = true := beq_iff_eq.mpr c24
              have c24b1 : ((rd t250 0) != 1) = false := bne_eq_false_iff_eq.mpr c24
              clear c24
              by_cases c25 : 1 < (t250.length : Int)
              · rw [if_pos c25] at H
                have c25b0 : decide (1 < (t250.length : Int)) = true := decide_eq_true c25
                have c25b1 : decide (1 < t250.length) = true := decide_eq_true (by omega)
                clear c25
                by_cases c26 : (rd t250 1) = 2
                · rw [if_pos c26] at H
                  have c26b0 : ((rd t250 1) == 2) = true := beq_iff_eq.mpr c26
                  have c26b1 : ((rd t250 1) != 2) = false := bne_eq_false_iff_eq.mpr c26
                  clear c26
                  by_cases c27 : 2 < (t250.length : Int)
                  · rw [if_pos c27] at H
                    have c27b0 : decide (2 < (t250.length : Int)) = true := decide_eq_true c27
                    have c27b1 : decide (2 < t250.length) = true := decide_eq_true (by omega)
                    clear c27
                    by_cases c28 : (rd t250 2) = 0
                    · rw [if_pos c28] at H
                      have c28b0 : ((rd t250 2) == 0) = true := beq_iff_eq.mpr c28
                      have c28b1 : ((rd t250 2) != 0) = false := bne_eq_false_iff_eq.mpr c28
                      clear c28
                      replace H := Option.bind_eq_some_iff.mp H
                      obtain ⟨t256, A290, H⟩ := H
                      try dsimp only at H
                      have A29 := Aside0.mk A290
                      clear A290
                      obtain rfl := Option.some.inj H
                      go_wp2_with (first | ((with_reducible refine gate_callee (f := 18) rfl ?_); refine goesL_ (some 32) rfl rfl Tryz.func18 (by kernel_rfl) rfl #[.string (⟨#[98]⟩ : ByteArray)] rfl (by exact phAwake_2) ?_; (with_reducible refine (abacuslaw18_str.calls (⟨#[98]⟩ : ByteArray) t238 t239 t240 _ A18.out).mono ?_); rintro e w30 ⟨rfl, hb⟩; refine ⟨_, rfl, ?_⟩; have n0_ := Aside0.mk (below_step (by exact phAwake_1) hb); clear HB; have HB := n0_; clear n0_; (try clear hb); (try clear hb2); (try clear hk); (try clear hi)) | ((with_reducible refine gate_callee (f := 20) rfl ?_); refine goesL_ (some 33) rfl rfl Tryz.func20 (by kernel_rfl) rfl #[.int .u64 4607182418800017408] rfl (by exact phAwake_2) ?_; (with_reducible refine (abacuslaw18_num.calls 4607182418800017408 t233 t234 t235 _ A19.out).mono ?_); rintro e w31 ⟨rfl, hb⟩; refine ⟨_, rfl, ?_⟩; have n0_ := Aside0.mk (below_step (by exact phAwake_1) hb); clear HB; have HB := n0_; clear n0_; (try clear hb); (try clear hb2); (try clear hk); (try clear hi)) | ((with_reducible refine gate_callee (f := 18) rfl ?_); refine goesL_ (some 34) rfl rfl Tryz.func18 (by kernel_rfl) rfl #[.string (⟨#[97]⟩ : ByteArray)] rfl (by exact phAwake_2) ?_; (with_reducible refine (abacuslaw18_str.calls (⟨#[97]⟩ : ByteArray) t244 t245 t246 _ A20.out).mono ?_); rintro e w32 ⟨rfl, hb⟩; refine ⟨_, rfl, ?_⟩; have n0_ := Aside0.mk (below_step (by exact phAwake_1) hb); clear HB; have HB := n0_; clear n0_; (try clear hb); (try clear hb2); (try clear hk); (try clear hi)) | ((with_reducible refine gate_dst (N := 35) rfl ?_); refine Kd.R_lit k29 _ 29 ?hg (N := 35) ?hd (xs := ([(⟨t238, t239, t240⟩ : S29), (⟨t233, t234, t235⟩ : S29), (⟨t244, t245, t246⟩ : S29)] : List (S29))) (inner := [.int .i64 t238, .int .u64 t239, .string t240, .int .i64 t233, .int .u64 t234, .string t235, .int .i64 t244, .int .u64 t245, .string t246]) (ok := fun _ => True) (okp := fun _ => True) ?hr ?hp (fun _ hk => hk) trivial (Below.refl _ _) (Nat.le_refl _) (by simp) ?_; (case hd => rfl); (case hg => rfl); (case hr => first | (go_simp; done) | (go_simp; rfl)); (case hp => exact (Reps.c3 (show Kd.M k29 _ _ _ (⟨t238, t239, t240⟩ : S29) [.int .i64 t238, .int .u64 t239, .string t240] from (k29_mkM _ _ _ (⟨t238, t239, t240⟩ : S29) )) (Reps.c3 (show Kd.M k29 _ _ _ (⟨t233, t234, t235⟩ : S29) [.int .i64 t233, .int .u64 t234, .string t235] from (k29_mkM _ _ _ (⟨t233, t234, t235⟩ : S29) )) (Reps.c3 (show Kd.M k29 _ _ _ (⟨t244, t245, t246⟩ : S29) [.int .i64 t244, .int .u64 t245, .string t246] from (k29_mkM _ _ _ (⟨t244, t245, t246⟩ : S29) )) (Reps.none _ _))))); intro v248 w33 ho34 hb hg_ hnew_; clear hg_ hnew_; (first | rw [← Ny247.out] at ho34 | (simp only [Int.reduceToNat] at ho34; rw [← Ny247.out] at ho34)); have n0_ := Aside0.mk (Kd.R_lower ho34 (below_size (by exact phAwake_1))); have n1_ := Aside0.mk (below_step (by exact phAwake_1) hb); clear HB; have HO249 := n0_; have HB := n1_; clear n0_ n1_; clear hb ho34; obtain ⟨Ao35, co35, eo35⟩ := Kd.R_slice HO249.out; subst eo35) | ((with_reducible refine gate_callee (f := 23) rfl ?_); refine goesL_ (some 36) rfl rfl Tryz.func23 (by kernel_rfl) rfl #[.slice Ao35 y247.length co35] rfl (by exact phAwake_2) ?_; (with_reducible refine (relate_Sort.calls _ _ y247 t250 _ ?side1 ?side2 A21.out).mono ?_); (case side1 => repeat (first | exact (Kd.R_reads' HO249.out).2.2 | (with_reducible refine Kd.C_alloc ?_ _) | (with_reducible refine Kd.C_drewN ?_ _) | (with_reducible refine Kd.C_drew ?_))); (case side2 => exact (Kd.R_reads' HO249.out).2.1); rintro e w36 ⟨v251, rfl, ho0, hb⟩; refine ⟨_, rfl, ?_⟩; have n0_ := Aside0.mk (Kd.R_below (by exact phAwake_5) hb); have n1_ := Aside0.mk (Kd.R_lower ho0 (below_size (by exact phAwake_1))); have n2_ := Aside0.mk (below_step (by exact phAwake_1) hb); clear HO249; clear HB; have HO249 := n0_; have HO252 := n1_; have HB := n2_; clear n0_ n1_ n2_; (try clear hb); (try clear hb2); (try clear hk); (try clear hi); (try clear ho0); obtain ⟨Ao37, co37, eo37⟩ := Kd.R_slice HO252.out; subst eo37; have p253 : 0 ≤ (0 : Int) := (by omega); have q253 : 0 < (t250.length : Int) := of_decide_eq_true (by exact phAwake_3); obtain ⟨ad253, e253, hx253_0⟩ := Kd.at_int (Kd.R_reads' HO252.out).2.2 0 p253 q253; cases e253; have qi253 : (0 < t250.length) = True := eq_true (by omega); (try rw [show ((0 : Int)).toNat = 0 from rfl] at hx253_0); (try rw [Addr.add_zero'] at hx253_0); replace p253 := eq_true p253; replace q253 := eq_true q253; have p254 : 0 ≤ (1 : Int) := (by omega); have q254 : 1 < (t250.length : Int) := of_decide_eq_true (by exact phAwake_3); obtain ⟨ad254, e254, hx254_0⟩ := Kd.at_int (Kd.R_reads' HO252.out).2.2 1 p254 q254; obtain rfl : ad253 = ad254 := (by injection e254); (try simp only [show (1 : Int).toNat = 1 from rfl, Nat.reduceMul, Nat.reduceEqDiff, Go.Addr.add, ↓reduceIte] at hx254_0); have qi254 : (1 < t250.length) = True := eq_true (by omega); (try rw [show ((1 : Int)).toNat = 1 from rfl] at hx254_0); replace p254 := eq_true p254; replace q254 := eq_true q254; have p255 : 0 ≤ (2 : Int) := (by omega); have q255 : 2 < (t250.length : Int) := of_decide_eq_true (by exact phAwake_3); obtain ⟨ad255, e255, hx255_0⟩ := Kd.at_int (Kd.R_reads' HO252.out).2.2 2 p255 q255; obtain rfl : ad253 = ad255 := (by injection e255); (try simp only [show (2 : Int).toNat = 2 from rfl, Nat.reduceMul, Nat.reduceEqDiff, Go.Addr.add, ↓reduceIte] at hx255_0); have qi255 : (2 < t250.length) = True := eq_true (by omega); (try rw [show ((2 : Int)).toNat = 2 from rfl] at hx255_0); replace p255 := eq_true p255; replace q255 := eq_true q255) | (go_at_call 58; (with_reducible refine (abacuslaw18_queued.calls  t256 _ A29.out).mono ?_); rintro e w38 ⟨rfl, hb⟩; have n0_ := Aside0.mk (Kd.R_below (by exact phAwake_5) hb); have n1_ := Aside0.mk (Kd.R_below (by (with_reducible repeat (first | apply Kd.R_alloc | apply Kd.R_drewN | apply Kd.R_drew)); exact HO252.out) hb); have n2_ := Aside0.mk (below_step (by exact phAwake_1) hb); clear HO249; clear HO252; clear HB; have HO249 := n0_; have HO252 := n1_; have HB := n2_; clear n0_ n1_ n2_; (try clear hb); (try clear hb2); (try clear hk); (try clear hi)))
                      go_ret
                      exact ⟨by exact phAwake_4, by exact phAwake_1⟩
                    · rw [if_neg c28] at H
                      have c28b0 : ((rd t250 2) == 0) = false := beq_eq_false_iff_ne.mpr c28
                      have c28b1 : ((rd t250 2) != 0) = true := bne_iff_ne.mpr c28
                      obtain rfl := Option.some.inj H
                      go_wp2_with (first | ((with_reducible refine gate_callee (f := 18) rfl ?_); refine goesL_ (some 32) rfl rfl Tryz.func18 (by kernel_rfl) rfl #[.string (⟨#[98]⟩ : ByteArray)] rfl (by exact phAwake_2) ?_; (with_reducible refine (abacuslaw18_str.calls (⟨#[98]⟩ : ByteArray) t238 t239 t240 _ A18.out).mono ?_); rintro e w39 ⟨rfl, hb⟩; refine ⟨_, rfl, ?_⟩; have n0_ := Aside0.mk (below_step (by exact phAwake_1) hb); clear HB; have HB := n0_; clear n0_; (try clear hb); (try clear hb2); (try clear hk); (try clear hi)) | ((with_reducible refine gate_callee (f := 20) rfl ?_); refine goesL_ (some 33) rfl rfl Tryz.func20 (by kernel_rfl) rfl #[.int .u64 4607182418800017408] rfl (by exact phAwake_2) ?_; (with_reducible refine (abacuslaw18_num.calls 4607182418800017408 t233 t234 t235 _ A19.out).mono ?_); rintro e w40 ⟨rfl, hb⟩; refine ⟨_, rfl, ?_⟩; have n0_ := Aside0.mk (below_step (by exact phAwake_1) hb); clear HB; have HB := n0_; clear n0_; (try clear hb); (try clear hb2); (try clear hk); (try clear hi)) | ((with_reducible refine gate_callee (f := 18) rfl ?_); refine goesL_ (some 34) rfl rfl Tryz.func18 (by kernel_rfl) rfl #[.string (⟨#[97]⟩ : ByteArray)] rfl (by exact phAwake_2) ?_; (with_reducible refine (abacuslaw18_str.calls (⟨#[97]⟩ : ByteArray) t244 t245 t246 _ A20.out).mono ?_); rintro e w41 ⟨rfl, hb⟩; refine ⟨_, rfl, ?_⟩; have n0_ := Aside0.mk (below_step (by exact phAwake_1) hb); clear HB; have HB := n0_; clear n0_; (try clear hb); (try clear hb2); (try clear hk); (try clear hi)) | ((with_reducible refine gate_dst (N := 35) rfl ?_); refine Kd.R_lit k29 _ 29 ?hg (N := 35) ?hd (xs := ([(⟨t238, t239, t240⟩ : S29), (⟨t233, t234, t235⟩ : S29), (⟨t244, t245, t246⟩ : S29)] : List (S29))) (inner := [.int .i64 t238, .int .u64 t239, .string t240, .int .i64 t233, .int .u64 t234, .string t235, .int .i64 t244, .int .u64 t245, .string t246]) (ok := fun _ => True) (okp := fun _ => True) ?hr ?hp (fun _ hk => hk) trivial (Below.refl _ _) (Nat.le_refl _) (by simp) ?_; (case hd => rfl); (case hg => rfl); (case hr => first | (go_simp; done) | (go_simp; rfl)); (case hp => exact (Reps.c3 (show Kd.M k29 _ _ _ (⟨t238, t239, t240⟩ : S29) [.int .i64 t238, .int .u64 t239, .string t240] from (k29_mkM _ _ _ (⟨t238, t239, t240⟩ : S29) )) (Reps.c3 (show Kd.M k29 _ _ _ (⟨t233, t234, t235⟩ : S29) [.int .i64 t233, .int .u64 t234, .string t235] from (k29_mkM _ _ _ (⟨t233, t234, t235⟩ : S29) )) (Reps.c3 (show Kd.M k29 _ _ _ (⟨t244, t245, t246⟩ : S29) [.int .i64 t244, .int .u64 t245, .string t246] from (k29_mkM _ _ _ (⟨t244, t245, t246⟩ : S29) )) (Reps.none _ _))))); intro v248 w42 ho43 hb hg_ hnew_; clear hg_ hnew_; (first | rw [← Ny247.out] at ho43 | (simp only [Int.reduceToNat] at ho43; rw [← Ny247.out] at ho43)); have n0_ := Aside0.mk (Kd.R_lower ho43 (below_size (by exact phAwake_1))); have n1_ := Aside0.mk (below_step (by exact phAwake_1) hb); clear HB; have HO249 := n0_; have HB := n1_; clear n0_ n1_; clear hb ho43; obtain ⟨Ao44, co44, eo44⟩ := Kd.R_slice HO249.out; subst eo44) | ((with_reducible refine gate_callee (f := 23) rfl ?_); refine goesL_ (some 36) rfl rfl Tryz.func23 (by kernel_rfl) rfl #[.slice Ao44 y247.length co44] rfl (by exact phAwake_2) ?_; (with_reducible refine (relate_Sort.calls _ _ y247 t250 _ ?side1 ?side2 A21.out).mono ?_); (case side1 => repeat (first | exact (Kd.R_reads' HO249.out).2.2 | (with_reducible refine Kd.C_alloc ?_ _) | (with_reducible refine Kd.C_drewN ?_ _) | (with_reducible refine Kd.C_drew ?_))); (case side2 => exact (Kd.R_reads' HO249.out).2.1); rintro e w45 ⟨v251, rfl, ho0, hb⟩; refine ⟨_, rfl, ?_⟩; have n0_ := Aside0.mk (Kd.R_below (by exact phAwake_5) hb); have n1_ := Aside0.mk (Kd.R_lower ho0 (below_size (by exact phAwake_1))); have n2_ := Aside0.mk (below_step (by exact phAwake_1) hb); clear HO249; clear HB; have HO249 := n0_; have HO252 := n1_; have HB := n2_; clear n0_ n1_ n2_; (try clear hb); (try clear hb2); (try clear hk); (try clear hi); (try clear ho0); obtain ⟨Ao46, co46, eo46⟩ := Kd.R_slice HO252.out; subst eo46; have p253 : 0 ≤ (0 : Int) := (by omega); have q253 : 0 < (t250.length : Int) := of_decide_eq_true (by exact phAwake_3); obtain ⟨ad253, e253, hx253_0⟩ := Kd.at_int (Kd.R_reads' HO252.out).2.2 0 p253 q253; cases e253; have qi253 : (0 < t250.length) = True := eq_true (by omega); (try rw [show ((0 : Int)).toNat = 0 from rfl] at hx253_0); (try rw [Addr.add_zero'] at hx253_0); replace p253 := eq_true p253; replace q253 := eq_true q253; have p254 : 0 ≤ (1 : Int) := (by omega); have q254 : 1 < (t250.length : Int) := of_decide_eq_true (by exact phAwake_3); obtain ⟨ad254, e254, hx254_0⟩ := Kd.at_int (Kd.R_reads' HO252.out).2.2 1 p254 q254; obtain rfl : ad253 = ad254 := (by injection e254); (try simp only [show (1 : Int).toNat = 1 from rfl, Nat.reduceMul, Nat.reduceEqDiff, Go.Addr.add, ↓reduceIte] at hx254_0); have qi254 : (1 < t250.length) = True := eq_true (by omega); (try rw [show ((1 : Int)).toNat = 1 from rfl] at hx254_0); replace p254 := eq_true p254; replace q254 := eq_true q254; have p255 : 0 ≤ (2 : Int) := (by omega); have q255 : 2 < (t250.length : Int) := of_decide_eq_true (by exact phAwake_3); obtain ⟨ad255, e255, hx255_0⟩ := Kd.at_int (Kd.R_reads' HO252.out).2.2 2 p255 q255; obtain rfl : ad253 = ad255 := (by injection e255); (try simp only [show (2 : Int).toNat = 2 from rfl, Nat.reduceMul, Nat.reduceEqDiff, Go.Addr.add, ↓reduceIte] at hx255_0); have qi255 : (2 < t250.length) = True := eq_true (by omega); (try rw [show ((2 : Int)).toNat = 2 from rfl] at hx255_0); replace p255 := eq_true p255; replace q255 := eq_true q255))
                      go_ret
                      exact ⟨by exact phAwake_4, by exact phAwake_1⟩
                  · rw [if_neg c27] at H
                    exact absurd H (by simp)
                · rw [if_neg c26] at H
                  have c26b0 : ((rd t250 1) == 2) = false := beq_eq_false_iff_ne.mpr c26
                  have c26b1 : ((rd t250 1) != 2) = true := bne_iff_ne.mpr c26
                  obtain rfl := Option.some.inj H
                  go_wp2_with (first | ((with_reducible refine gate_callee (f := 18) rfl ?_); refine goesL_ (some 32) rfl rfl Tryz.func18 (by kernel_rfl) rfl #[.string (⟨#[98]⟩ : ByteArray)] rfl (by exact phAwake_2) ?_; (with_reducible refine (abacuslaw18_str.calls (⟨#[98]⟩ : ByteArray) t238 t239 t240 _ A18.out).mono ?_); rintro e w47 ⟨rfl, hb⟩; refine ⟨_, rfl, ?_⟩; have n0_ := Aside0.mk (below_step (by exact phAwake_1) hb); clear HB; have HB := n0_; clear n0_; (try clear hb); (try clear hb2); (try clear hk); (try clear hi)) | ((with_reducible refine gate_callee (f := 20) rfl ?_); refine goesL_ (some 33) rfl rfl Tryz.func20 (by kernel_rfl) rfl #[.int .u64 4607182418800017408] rfl (by exact phAwake_2) ?_; (with_reducible refine (abacuslaw18_num.calls 4607182418800017408 t233 t234 t235 _ A19.out).mono ?_); rintro e w48 ⟨rfl, hb⟩; refine ⟨_, rfl, ?_⟩; have n0_ := Aside0.mk (below_step (by exact phAwake_1) hb); clear HB; have HB := n0_; clear n0_; (try clear hb); (try clear hb2); (try clear hk); (try clear hi)) | ((with_reducible refine gate_callee (f := 18) rfl ?_); refine goesL_ (some 34) rfl rfl Tryz.func18 (by kernel_rfl) rfl #[.string (⟨#[97]⟩ : ByteArray)] rfl (by exact phAwake_2) ?_; (with_reducible refine (abacuslaw18_str.calls (⟨#[97]⟩ : ByteArray) t244 t245 t246 _ A20.out).mono ?_); rintro e w49 ⟨rfl, hb⟩; refine ⟨_, rfl, ?_⟩; have n0_ := Aside0.mk (below_step (by exact phAwake_1) hb); clear HB; have HB := n0_; clear n0_; (try clear hb); (try clear hb2); (try clear hk); (try clear hi)) | ((with_reducible refine gate_dst (N := 35) rfl ?_); refine Kd.R_lit k29 _ 29 ?hg (N := 35) ?hd (xs := ([(⟨t238, t239, t240⟩ : S29), (⟨t233, t234, t235⟩ : S29), (⟨t244, t245, t246⟩ : S29)] : List (S29))) (inner := [.int .i64 t238, .int .u64 t239, .string t240, .int .i64 t233, .int .u64 t234, .string t235, .int .i64 t244, .int .u64 t245, .string t246]) (ok := fun _ => True) (okp := fun _ => True) ?hr ?hp (fun _ hk => hk) trivial (Below.refl _ _) (Nat.le_refl _) (by simp) ?_; (case hd => rfl); (case hg => rfl); (case hr => first | (go_simp; done) | (go_simp; rfl)); (case hp => exact (Reps.c3 (show Kd.M k29 _ _ _ (⟨t238, t239, t240⟩ : S29) [.int .i64 t238, .int .u64 t239, .string t240] from (k29_mkM _ _ _ (⟨t238, t239, t240⟩ : S29) )) (Reps.c3 (show Kd.M k29 _ _ _ (⟨t233, t234, t235⟩ : S29) [.int .i64 t233, .int .u64 t234, .string t235] from (k29_mkM _ _ _ (⟨t233, t234, t235⟩ : S29) )) (Reps.c3 (show Kd.M k29 _ _ _ (⟨t244, t245, t246⟩ : S29) [.int .i64 t244, .int .u64 t245, .string t246] from (k29_mkM _ _ _ (⟨t244, t245, t246⟩ : S29) )) (Reps.none _ _))))); intro v248 w50 ho51 hb hg_ hnew_; clear hg_ hnew_; (first | rw [← Ny247.out] at ho51 | (simp only [Int.reduceToNat] at ho51; rw [← Ny247.out] at ho51)); have n0_ := Aside0.mk (Kd.R_lower ho51 (below_size (by exact phAwake_1))); have n1_ := Aside0.mk (below_step (by exact phAwake_1) hb); clear HB; have HO249 := n0_; have HB := n1_; clear n0_ n1_; clear hb ho51; obtain ⟨Ao52, co52, eo52⟩ := Kd.R_slice HO249.out; subst eo52) | ((with_reducible refine gate_callee (f := 23) rfl ?_); refine goesL_ (some 36) rfl rfl Tryz.func23 (by kernel_rfl) rfl #[.slice Ao52 y247.length co52] rfl (by exact phAwake_2) ?_; (with_reducible refine (relate_Sort.calls _ _ y247 t250 _ ?side1 ?side2 A21.out).mono ?_); (case side1 => repeat (first | exact (Kd.R_reads' HO249.out).2.2 | (with_reducible refine Kd.C_alloc ?_ _) | (with_reducible refine Kd.C_drewN ?_ _) | (with_reducible refine Kd.C_drew ?_))); (case side2 => exact (Kd.R_reads' HO249.out).2.1); rintro e w53 ⟨v251, rfl, ho0, hb⟩; refine ⟨_, rfl, ?_⟩; have n0_ := Aside0.mk (Kd.R_below (by exact phAwake_5) hb); have n1_ := Aside0.mk (Kd.R_lower ho0 (below_size (by exact phAwake_1))); have n2_ := Aside0.mk (below_step (by exact phAwake_1) hb); clear HO249; clear HB; have HO249 := n0_; have HO252 := n1_; have HB := n2_; clear n0_ n1_ n2_; (try clear hb); (try clear hb2); (try clear hk); (try clear hi); (try clear ho0); obtain ⟨Ao54, co54, eo54⟩ := Kd.R_slice HO252.out; subst eo54; have p253 : 0 ≤ (0 : Int) := (by omega); have q253 : 0 < (t250.length : Int) := of_decide_eq_true (by exact phAwake_3); obtain ⟨ad253, e253, hx253_0⟩ := Kd.at_int (Kd.R_reads' HO252.out).2.2 0 p253 q253; cases e253; have qi253 : (0 < t250.length) = True := eq_true (by omega); (try rw [show ((0 : Int)).toNat = 0 from rfl] at hx253_0); (try rw [Addr.add_zero'] at hx253_0); replace p253 := eq_true p253; replace q253 := eq_true q253; have p254 : 0 ≤ (1 : Int) := (by omega); have q254 : 1 < (t250.length : Int) := of_decide_eq_true (by exact phAwake_3); obtain ⟨ad254, e254, hx254_0⟩ := Kd.at_int (Kd.R_reads' HO252.out).2.2 1 p254 q254; obtain rfl : ad253 = ad254 := (by injection e254); (try simp only [show (1 : Int).toNat = 1 from rfl, Nat.reduceMul, Nat.reduceEqDiff, Go.Addr.add, ↓reduceIte] at hx254_0); have qi254 : (1 < t250.length) = True := eq_true (by omega); (try rw [show ((1 : Int)).toNat = 1 from rfl] at hx254_0); replace p254 := eq_true p254; replace q254 := eq_true q254))
                  go_ret
                  exact ⟨by exact phAwake_4, by exact phAwake_1⟩
              · rw [if_neg c25] at H
                exact absurd H (by simp)
            · rw [if_neg c24] at H
              have c24b0 : ((rd t250 0) == 1) = false := beq_eq_false_iff_ne.mpr c24
              have c24b1 : ((rd t250 0) != 1) = true := bne_iff_ne.mpr c24
              obtain rfl := Option.some.inj H
              go_wp2_with (first | ((with_reducible refine gate_callee (f := 18) rfl ?_); refine goesL_ (some 32) rfl rfl Tryz.func18 (by kernel_rfl) rfl #[.string (⟨#[98]⟩ : ByteArray)] rfl (by exact phAwake_2) ?_; (with_reducible refine (abacuslaw18_str.calls (⟨#[98]⟩ : ByteArray) t238 t239 t240 _ A18.out).mono ?_); rintro e w55 ⟨rfl, hb⟩; refine ⟨_, rfl, ?_⟩; have n0_ := Aside0.mk (below_step (by exact phAwake_1) hb); clear HB; have HB := n0_; clear n0_; (try clear hb); (try clear hb2); (try clear hk); (try clear hi)) | ((with_reducible refine gate_callee (f := 20) rfl ?_); refine goesL_ (some 33) rfl rfl Tryz.func20 (by kernel_rfl) rfl #[.int .u64 4607182418800017408] rfl (by exact phAwake_2) ?_; (with_reducible refine (abacuslaw18_num.calls 4607182418800017408 t233 t234 t235 _ A19.out).mono ?_); rintro e w56 ⟨rfl, hb⟩; refine ⟨_, rfl, ?_⟩; have n0_ := Aside0.mk (below_step (by exact phAwake_1) hb); clear HB; have HB := n0_; clear n0_; (try clear hb); (try clear hb2); (try clear hk); (try clear hi)) | ((with_reducible refine gate_callee (f := 18) rfl ?_); refine goesL_ (some 34) rfl rfl Tryz.func18 (by kernel_rfl) rfl #[.string (⟨#[97]⟩ : ByteArray)] rfl (by exact phAwake_2) ?_; (with_reducible refine (abacuslaw18_str.calls (⟨#[97]⟩ : ByteArray) t244 t245 t246 _ A20.out).mono ?_); rintro e w57 ⟨rfl, hb⟩; refine ⟨_, rfl, ?_⟩; have n0_ := Aside0.mk (below_step (by exact phAwake_1) hb); clear HB; have HB := n0_; clear n0_; (try clear hb); (try clear hb2); (try clear hk); (try clear hi)) | ((with_reducible refine gate_dst (N := 35) rfl ?_); refine Kd.R_lit k29 _ 29 ?hg (N := 35) ?hd (xs := ([(⟨t238, t239, t240⟩ : S29), (⟨t233, t234, t235⟩ : S29), (⟨t244, t245, t246⟩ : S29)] : List (S29))) (inner := [.int .i64 t238, .int .u64 t239, .string t240, .int .i64 t233, .int .u64 t234, .string t235, .int .i64 t244, .int .u64 t245, .string t246]) (ok := fun _ => True) (okp := fun _ => True) ?hr ?hp (fun _ hk => hk) trivial (Below.refl _ _) (Nat.le_refl _) (by simp) ?_; (case hd => rfl); (case hg => rfl); (case hr => first | (go_simp; done) | (go_simp; rfl)); (case hp => exact (Reps.c3 (show Kd.M k29 _ _ _ (⟨t238, t239, t240⟩ : S29) [.int .i64 t238, .int .u64 t239, .string t240] from (k29_mkM _ _ _ (⟨t238, t239, t240⟩ : S29) )) (Reps.c3 (show Kd.M k29 _ _ _ (⟨t233, t234, t235⟩ : S29) [.int .i64 t233, .int .u64 t234, .string t235] from (k29_mkM _ _ _ (⟨t233, t234, t235⟩ : S29) )) (Reps.c3 (show Kd.M k29 _ _ _ (⟨t244, t245, t246⟩ : S29) [.int .i64 t244, .int .u64 t245, .string t246] from (k29_mkM _ _ _ (⟨t244, t245, t246⟩ : S29) )) (Reps.none _ _))))); intro v248 w58 ho59 hb hg_ hnew_; clear hg_ hnew_; (first | rw [← Ny247.out] at ho59 | (simp only [Int.reduceToNat] at ho59; rw [← Ny247.out] at ho59)); have n0_ := Aside0.mk (Kd.R_lower ho59 (below_size (by exact phAwake_1))); have n1_ := Aside0.mk (below_step (by exact phAwake_1) hb); clear HB; have HO249 := n0_; have HB := n1_; clear n0_ n1_; clear hb ho59; obtain ⟨Ao60, co60, eo60⟩ := Kd.R_slice HO249.out; subst eo60) | ((with_reducible refine gate_callee (f := 23) rfl ?_); refine goesL_ (some 36) rfl rfl Tryz.func23 (by kernel_rfl) rfl #[.slice Ao60 y247.length co60] rfl (by exact phAwake_2) ?_; (with_reducible refine (relate_Sort.calls _ _ y247 t250 _ ?side1 ?side2 A21.out).mono ?_); (case side1 => repeat (first | exact (Kd.R_reads' HO249.out).2.2 | (with_reducible refine Kd.C_alloc ?_ _) | (with_reducible refine Kd.C_drewN ?_ _) | (with_reducible refine Kd.C_drew ?_))); (case side2 => exact (Kd.R_reads' HO249.out).2.1); rintro e w61 ⟨v251, rfl, ho0, hb⟩; refine ⟨_, rfl, ?_⟩; have n0_ := Aside0.mk (Kd.R_below (by exact phAwake_5) hb); have n1_ := Aside0.mk (Kd.R_lower ho0 (below_size (by exact phAwake_1))); have n2_ := Aside0.mk (below_step (by exact phAwake_1) hb); clear HO249; clear HB; have HO249 := n0_; have HO252 := n1_; have HB := n2_; clear n0_ n1_ n2_; (try clear hb); (try clear hb2); (try clear hk); (try clear hi); (try clear ho0); obtain ⟨Ao62, co62, eo62⟩ := Kd.R_slice HO252.out; subst eo62; have p253 : 0 ≤ (0 : Int) := (by omega); have q253 : 0 < (t250.length : Int) := of_decide_eq_true (by exact phAwake_3); obtain ⟨ad253, e253, hx253_0⟩ := Kd.at_int (Kd.R_reads' HO252.out).2.2 0 p253 q253; cases e253; have qi253 : (0 < t250.length) = True := eq_true (by omega); (try rw [show ((0 : Int)).toNat = 0 from rfl] at hx253_0); (try rw [Addr.add_zero'] at hx253_0); replace p253 := eq_true p253; replace q253 := eq_true q253))
              go_ret
              exact ⟨by exact phAwake_4, by exact phAwake_1⟩
          · rw [if_neg c23] at H
            exact absurd H (by simp)
        · rw [if_neg c22] at H
          have c22b0 : ((t250.length : Int) == 3) = false := beq_eq_false_iff_ne.mpr c22
          have c22b1 : ((t250.length : Int) != 3) = true := bne_iff_ne.mpr c22
          obtain rfl := Option.some.inj H
          go_wp2_with (first | ((with_reducible refine gate_callee (f := 18) rfl ?_); refine goesL_ (some 32) rfl rfl Tryz.func18 (by kernel_rfl) rfl #[.string (⟨#[98]⟩ : ByteArray)] rfl (by exact phAwake_2) ?_; (with_reducible refine (abacuslaw18_str.calls (⟨#[98]⟩ : ByteArray) t238 t239 t240 _ A18.out).mono ?_); rintro e w63 ⟨rfl, hb⟩; refine ⟨_, rfl, ?_⟩; have n0_ := Aside0.mk (below_step (by exact phAwake_1) hb); clear HB; have HB := n0_; clear n0_; (try clear hb); (try clear hb2); (try clear hk); (try clear hi)) | ((with_reducible refine gate_callee (f := 20) rfl ?_); refine goesL_ (some 33) rfl rfl Tryz.func20 (by kernel_rfl) rfl #[.int .u64 4607182418800017408] rfl (by exact phAwake_2) ?_; (with_reducible refine (abacuslaw18_num.calls 4607182418800017408 t233 t234 t235 _ A19.out).mono ?_); rintro e w64 ⟨rfl, hb⟩; refine ⟨_, rfl, ?_⟩; have n0_ := Aside0.mk (below_step (by exact phAwake_1) hb); clear HB; have HB := n0_; clear n0_; (try clear hb); (try clear hb2); (try clear hk); (try clear hi)) | ((with_reducible refine gate_callee (f := 18) rfl ?_); refine goesL_ (some 34) rfl rfl Tryz.func18 (by kernel_rfl) rfl #[.string (⟨#[97]⟩ : ByteArray)] rfl (by exact phAwake_2) ?_; (with_reducible refine (abacuslaw18_str.calls (⟨#[97]⟩ : ByteArray) t244 t245 t246 _ A20.out).mono ?_); rintro e w65 ⟨rfl, hb⟩; refine ⟨_, rfl, ?_⟩; have n0_ := Aside0.mk (below_step (by exact phAwake_1) hb); clear HB; have HB := n0_; clear n0_; (try clear hb); (try clear hb2); (try clear hk); (try clear hi)) | ((with_reducible refine gate_dst (N := 35) rfl ?_); refine Kd.R_lit k29 _ 29 ?hg (N := 35) ?hd (xs := ([(⟨t238, t239, t240⟩ : S29), (⟨t233, t234, t235⟩ : S29), (⟨t244, t245, t246⟩ : S29)] : List (S29))) (inner := [.int .i64 t238, .int .u64 t239, .string t240, .int .i64 t233, .int .u64 t234, .string t235, .int .i64 t244, .int .u64 t245, .string t246]) (ok := fun _ => True) (okp := fun _ => True) ?hr ?hp (fun _ hk => hk) trivial (Below.refl _ _) (Nat.le_refl _) (by simp) ?_; (case hd => rfl); (case hg => rfl); (case hr => first | (go_simp; done) | (go_simp; rfl)); (case hp => exact (Reps.c3 (show Kd.M k29 _ _ _ (⟨t238, t239, t240⟩ : S29) [.int .i64 t238, .int .u64 t239, .string t240] from (k29_mkM _ _ _ (⟨t238, t239, t240⟩ : S29) )) (Reps.c3 (show Kd.M k29 _ _ _ (⟨t233, t234, t235⟩ : S29) [.int .i64 t233, .int .u64 t234, .string t235] from (k29_mkM _ _ _ (⟨t233, t234, t235⟩ : S29) )) (Reps.c3 (show Kd.M k29 _ _ _ (⟨t244, t245, t246⟩ : S29) [.int .i64 t244, .int .u64 t245, .string t246] from (k29_mkM _ _ _ (⟨t244, t245, t246⟩ : S29) )) (Reps.none _ _))))); intro v248 w66 ho67 hb hg_ hnew_; clear hg_ hnew_; (first | rw [← Ny247.out] at ho67 | (simp only [Int.reduceToNat] at ho67; rw [← Ny247.out] at ho67)); have n0_ := Aside0.mk (Kd.R_lower ho67 (below_size (by exact phAwake_1))); have n1_ := Aside0.mk (below_step (by exact phAwake_1) hb); clear HB; have HO249 := n0_; have HB := n1_; clear n0_ n1_; clear hb ho67; obtain ⟨Ao68, co68, eo68⟩ := Kd.R_slice HO249.out; subst eo68) | ((with_reducible refine gate_callee (f := 23) rfl ?_); refine goesL_ (some 36) rfl rfl Tryz.func23 (by kernel_rfl) rfl #[.slice Ao68 y247.length co68] rfl (by exact phAwake_2) ?_; (with_reducible refine (relate_Sort.calls _ _ y247 t250 _ ?side1 ?side2 A21.out).mono ?_); (case side1 => repeat (first | exact (Kd.R_reads' HO249.out).2.2 | (with_reducible refine Kd.C_alloc ?_ _) | (with_reducible refine Kd.C_drewN ?_ _) | (with_reducible refine Kd.C_drew ?_))); (case side2 => exact (Kd.R_reads' HO249.out).2.1); rintro e w69 ⟨v251, rfl, ho0, hb⟩; refine ⟨_, rfl, ?_⟩; have n0_ := Aside0.mk (Kd.R_below (by exact phAwake_5) hb); have n1_ := Aside0.mk (Kd.R_lower ho0 (below_size (by exact phAwake_1))); have n2_ := Aside0.mk (below_step (by exact phAwake_1) hb); clear HO249; clear HB; have HO249 := n0_; have HO252 := n1_; have HB := n2_; clear n0_ n1_ n2_; (try clear hb); (try clear hb2); (try clear hk); (try clear hi); (try clear ho0); obtain ⟨Ao70, co70, eo70⟩ := Kd.R_slice HO252.out; subst eo70))
          go_ret
          exact ⟨by exact phAwake_4, by exact phAwake_1⟩

end Go.Proofs.YtoanmnhkhookfaaGreatDoor.PXRelateTexts
