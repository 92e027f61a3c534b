/- The machine's side of a law, printed by a program of this session out of the translation; conditions: none. -/
import Derived.Test.YtoanmnhkhookfaaGreatDoorPXRelateTextsx0
import Derived.Test.YtoanmnhkhookfaaGreatDoorPXRelateTextsx1
import Derived.Test.YtoanmnhkhookfaaGreatDoorPXRelateTextsx3
namespace Go.Proofs.YtoanmnhkhookfaaGreatDoor.PXRelateTexts
open Go.Proofs.YtoanmnhkhookfaaGreatDoor
open Go.RowKit Go.Proofs.YtoanmnhkhookfaaGreatDoorW.PrintWords Go.Proofs.YtoanmnhkhookfaaGreatDoorW.PrintLast Go.Proofs.YtoanmnhkhookfaaGreatDoorW.PrintMore
attribute [local go_sem] max2_int min2_int max_two min_two max_three min_three max_four min_four   -- for this text's walks alone
set_option linter.unusedVariables false
set_option linter.unusedSimpArgs false

theorem phTextsx4_1 {P : Prop} (h : P := by first | (with_reducible assumption) | assumption) : P := h
theorem phTextsx4_2 {P : Prop} (h : P := by repeat (first | (with_reducible first | exact HB.out | apply below_alloc | apply pw_below_drewN | apply below_drew1) | exact HB.out)) : P := h
theorem phTextsx4_3 {P : Prop} (h : P := by (try simp only [List.map_toArray, List.map_cons, List.map_nil]); first | done | rfl | (simp only [List.length_drop, List.length_take]; rfl)) : P := h
theorem phTextsx4_4 {P : Prop} (h : P := by repeat (first | exact Drawn0.refl _ | apply Drawn0.step)) : P := h
theorem phTextsx4_5 {P : Prop} (h : P := by first | (with_reducible exact HG) | exact ⟨GW.below HG.out (by repeat (first | (with_reducible first | exact HB.out | apply below_alloc | apply pw_below_drewN | apply below_drew1) | (with_reducible refine below_set ?_ (Aside0.out (by assumption))) | exact HB.out | exact Below.refl _ _))⟩ | exact ⟨GW.drewN HG.out _⟩ | exact ⟨GW.drew HG.out⟩ | exact ⟨GW.drewN (GW.drewN HG.out _) _⟩ | exact ⟨GW.drewN (GW.drew HG.out) _⟩) : P := h
theorem phTextsx4_6 {P : Prop} (h : P := by repeat (first | (with_reducible first | exact HB.out | apply below_alloc | apply pw_below_drewN | apply below_drew1) | (with_reducible refine below_set ?_ (Aside0.out (by assumption))) | exact HB.out | exact Below.refl _ _)) : P := h
theorem phTextsx4_7 {P : Prop} (h : P := by first | rfl | (simp [errW_none, errW_some] <;> rfl) | (simp only [append_nothing]; done) | (simp only [append_nothing]; rfl) | (simp [*, errW_none, errW_some] <;> rfl)) : P := h
/-! ### value_Integer: function 104 -/
def value_Integer.f (k : Nat) (a0 : Int) : Option (ByteArray × Bool) := (ieee_Integral.f a0).bind fun t180 => (if t180 = true then ((ieee_ToInt.f k a0).bind fun bt181 => (if bt181.2 = 0 then (if bt181.1 = (-9223372036854775808) then (some ((⟨#[]⟩ : ByteArray), false)) else ((strconv_FormatInt.f bt181.1 10).bind fun t183 => (some (t183, true)))) else (some ((⟨#[]⟩ : ByteArray), false)))) else (some ((⟨#[]⟩ : ByteArray), false)))
theorem value_Integer.mono : ∀ a0 k, LeO (value_Integer.f k a0) (value_Integer.f (k + 1) a0) := by
  intro a0 k
  unfold value_Integer.f
  repeat' first
      | (with_reducible exact ieee_ToInt.mono _ _)
      | (with_reducible exact LeO.refl _)
      | (with_reducible exact LeO.none _)
      | (with_reducible refine LeO.ite ?_ ?_)
      | (with_reducible refine LeO.bind ?_ (fun _ => ?_))
      | exact ieee_ToInt.mono _ _
      | exact LeO.none _
      | refine LeO.ite ?_ ?_
      | refine LeO.bind ?_ (fun _ => ?_)
set_option maxHeartbeats 8000000 in
set_option maxRecDepth 100000 in
theorem value_Integer.calls (k : Nat) (a0 : Int) (r1 : ByteArray) (r2 : Bool) (w : World) (h : value_Integer.f k a0 = some (r1, r2)) (HG : Aside0 (GW w) := by exact phTextsx4_5) :
    Calls Tryz.prog 104 #[.int .u64 a0] w fun e w' => e = .returned (.tuple #[.string r1, .bool r2]) ∧ Below w.heap.size w w' := by
  have HB := Aside0.mk (Below.refl w.heap.size w)
  have H : ((ieee_Integral.f a0).bind fun t180 => (if t180 = true then ((ieee_ToInt.f k a0).bind fun bt181 => (if bt181.2 = 0 then (if bt181.1 = (-9223372036854775808) then (some ((⟨#[]⟩ : ByteArray), false)) else ((strconv_FormatInt.f bt181.1 10).bind fun t183 => (some (t183, true)))) else (some ((⟨#[]⟩ : ByteArray), false)))) else (some ((⟨#[]⟩ : ByteArray), false)))) = some (r1, r2) := h
  clear h
  replace H := Option.bind_eq_some_iff.mp H
  obtain ⟨t180, A20, H⟩ := H
  try dsimp only at H
  have A2 := Aside0.mk A20
  clear A20
  by_cases c3 : t180 = true
  · subst c3
    have H1 : ((ieee_ToInt.f k a0).bind fun bt181 => (if bt181.2 = 0 then (if bt181.1 = (-9223372036854775808) then (some ((⟨#[]⟩ : ByteArray), false)) else ((strconv_FormatInt.f bt181.1 10).bind fun t183 => (some (t183, true)))) else (some ((⟨#[]⟩ : ByteArray), false)))) = some (r1, r2) := by rw [if_pos rfl] at H; exact H
    clear H
    have H := H1
    clear H1
    replace H := Option.bind_eq_some_iff.mp H
    obtain ⟨⟨t181, t182⟩, A40, H⟩ := H
    try dsimp only at H
    have A4 := Aside0.mk A40
    clear A40
    by_cases c5 : t182 = 0
    · rw [if_pos c5] at H
      have c5b0 : (t182 == 0) = true := beq_iff_eq.mpr c5
      have c5b1 : (t182 != 0) = false := bne_eq_false_iff_eq.mpr c5
      clear c5
      by_cases c6 : t181 = (-9223372036854775808)
      · rw [if_pos c6] at H
        have c6b0 : (t181 == (-9223372036854775808)) = true := beq_iff_eq.mpr c6
        have c6b1 : (t181 != (-9223372036854775808)) = false := bne_eq_false_iff_eq.mpr c6
        clear c6
        simp only [Option.some.injEq, Prod.mk.injEq] at H
        obtain ⟨rfl, rfl⟩ := H
        go_enter Tryz.func104, Tryz.ntmps104
        go_wp2_with (first | ((with_reducible refine gate_callee (f := 117) rfl ?_); refine goesL_ (some 7) rfl rfl Tryz.func117 (by kernel_rfl) rfl #[.int .u64 a0] rfl (by exact phTextsx4_3) ?_; (with_reducible refine (ieee_Integral.calls a0 true _ A2.out).mono ?_); rintro e w7 ⟨rfl, hb⟩; refine ⟨_, rfl, ?_⟩; have n0_ := Aside0.mk (below_step (by exact phTextsx4_2) hb); clear HB; have HB := n0_; clear n0_; (try clear hb); (try clear hb2); (try clear hk); (try clear hi)) | ((with_reducible refine gate_callee (f := 118) rfl ?_); refine goesL_ (some 11) rfl rfl Tryz.func118 (by kernel_rfl) rfl #[.int .u64 a0] rfl (by exact phTextsx4_3) ?_; (with_reducible refine (ieee_ToInt.calls k a0 t181 t182 _ A4.out).mono ?_); rintro e w8 ⟨rfl, hb⟩; refine ⟨_, rfl, ?_⟩; have n0_ := Aside0.mk (below_step (by exact phTextsx4_2) hb); clear HB; have HB := n0_; clear n0_; (try clear hb); (try clear hb2); (try clear hk); (try clear hi)))
        go_ret2
        exact ⟨by exact phTextsx4_7, by exact phTextsx4_2⟩
      · rw [if_neg c6] at H
        have c6b0 : (t181 == (-9223372036854775808)) = false := beq_eq_false_iff_ne.mpr c6
        have c6b1 : (t181 != (-9223372036854775808)) = true := bne_iff_ne.mpr c6
        replace H := Option.bind_eq_some_iff.mp H
        obtain ⟨t183, A90, H⟩ := H
        try dsimp only at H
        have A9 := Aside0.mk A90
        clear A90
        simp only [Option.some.injEq, Prod.mk.injEq] at H
        obtain ⟨rfl, rfl⟩ := H
        go_enter Tryz.func104, Tryz.ntmps104
        go_wp2_with (first | ((with_reducible refine gate_callee (f := 117) rfl ?_); refine goesL_ (some 7) rfl rfl Tryz.func117 (by kernel_rfl) rfl #[.int .u64 a0] rfl (by exact phTextsx4_3) ?_; (with_reducible refine (ieee_Integral.calls a0 true _ A2.out).mono ?_); rintro e w10 ⟨rfl, hb⟩; refine ⟨_, rfl, ?_⟩; have n0_ := Aside0.mk (below_step (by exact phTextsx4_2) hb); clear HB; have HB := n0_; clear n0_; (try clear hb); (try clear hb2); (try clear hk); (try clear hi)) | ((with_reducible refine gate_callee (f := 118) rfl ?_); refine goesL_ (some 11) rfl rfl Tryz.func118 (by kernel_rfl) rfl #[.int .u64 a0] rfl (by exact phTextsx4_3) ?_; (with_reducible refine (ieee_ToInt.calls k a0 t181 t182 _ A4.out).mono ?_); rintro e w11 ⟨rfl, hb⟩; refine ⟨_, rfl, ?_⟩; have n0_ := Aside0.mk (below_step (by exact phTextsx4_2) hb); clear HB; have HB := n0_; clear n0_; (try clear hb); (try clear hb2); (try clear hk); (try clear hi)) | ((with_reducible refine gate_callee (f := 119) rfl ?_); refine goesL_ (some 21) rfl rfl Tryz.func119 (by kernel_rfl) rfl #[.int .i64 t181, .int .i64 10] rfl (by exact phTextsx4_3) ?_; (with_reducible refine (strconv_FormatInt.calls t181 10 t183 _ A9.out).mono ?_); rintro e w12 ⟨rfl, hb⟩; refine ⟨_, rfl, ?_⟩; have n0_ := Aside0.mk (below_step (by exact phTextsx4_2) hb); clear HB; have HB := n0_; clear n0_; (try clear hb); (try clear hb2); (try clear hk); (try clear hi)))
        go_ret2
        exact ⟨by exact phTextsx4_7, by exact phTextsx4_2⟩
    · rw [if_neg c5] at H
      have c5b0 : (t182 == 0) = false := beq_eq_false_iff_ne.mpr c5
      have c5b1 : (t182 != 0) = true := bne_iff_ne.mpr c5
      simp only [Option.some.injEq, Prod.mk.injEq] at H
      obtain ⟨rfl, rfl⟩ := H
      go_enter Tryz.func104, Tryz.ntmps104
      go_wp2_with (first | ((with_reducible refine gate_callee (f := 117) rfl ?_); refine goesL_ (some 7) rfl rfl Tryz.func117 (by kernel_rfl) rfl #[.int .u64 a0] rfl (by exact phTextsx4_3) ?_; (with_reducible refine (ieee_Integral.calls a0 true _ A2.out).mono ?_); rintro e w13 ⟨rfl, hb⟩; refine ⟨_, rfl, ?_⟩; have n0_ := Aside0.mk (below_step (by exact phTextsx4_2) hb); clear HB; have HB := n0_; clear n0_; (try clear hb); (try clear hb2); (try clear hk); (try clear hi)) | ((with_reducible refine gate_callee (f := 118) rfl ?_); refine goesL_ (some 11) rfl rfl Tryz.func118 (by kernel_rfl) rfl #[.int .u64 a0] rfl (by exact phTextsx4_3) ?_; (with_reducible refine (ieee_ToInt.calls k a0 t181 t182 _ A4.out).mono ?_); rintro e w14 ⟨rfl, hb⟩; refine ⟨_, rfl, ?_⟩; have n0_ := Aside0.mk (below_step (by exact phTextsx4_2) hb); clear HB; have HB := n0_; clear n0_; (try clear hb); (try clear hb2); (try clear hk); (try clear hi)))
      go_ret2
      exact ⟨by exact phTextsx4_7, by exact phTextsx4_2⟩
  · replace c3 := Bool.eq_false_iff.mpr c3
    subst c3
    have H1 : (some ((⟨#[]⟩ : ByteArray), false)) = some (r1, r2) := by rw [if_neg (show ¬ (false = true) by decide)] at H; exact H
    clear H
    have H := H1
    clear H1
    simp only [Option.some.injEq, Prod.mk.injEq] at H
    obtain ⟨rfl, rfl⟩ := H
    go_enter Tryz.func104, Tryz.ntmps104
    go_wp2_with (first | ((with_reducible refine gate_callee (f := 117) rfl ?_); refine goesL_ (some 7) rfl rfl Tryz.func117 (by kernel_rfl) rfl #[.int .u64 a0] rfl (by exact phTextsx4_3) ?_; (with_reducible refine (ieee_Integral.calls a0 false _ A2.out).mono ?_); rintro e w15 ⟨rfl, hb⟩; refine ⟨_, rfl, ?_⟩; have n0_ := Aside0.mk (below_step (by exact phTextsx4_2) hb); clear HB; have HB := n0_; clear n0_; (try clear hb); (try clear hb2); (try clear hk); (try clear hi)))
    go_ret2
    exact ⟨by exact phTextsx4_7, by exact phTextsx4_2⟩

/-! ### value_byFormat: function 85 -/
def value_byFormat.f (k : Nat) (a0 : Int) (a1 : ByteArray) : Option (ByteArray × Int) := (value_Integer.f k a0).bind fun t => (if t.2 = true then some (t.1, 0) else none)
theorem value_byFormat.mono : ∀ a0 a1 k, LeO (value_byFormat.f k a0 a1) (value_byFormat.f (k + 1) a0 a1) := by
  intro a0 a1 k
  unfold value_byFormat.f
  exact LeO.bind (value_Integer.mono _ _) (fun _ => LeO.refl _)
set_option maxHeartbeats 1000000 in
set_option maxRecDepth 100000 in
theorem value_byFormat.calls (k : Nat) (a0 : Int) (a1 : ByteArray) (r1 : ByteArray) (r2 : Int) (w : World) (h : value_byFormat.f k a0 a1 = some (r1, r2)) (HG : Aside0 (GW w) := by exact phTextsx4_5) :
    Calls Tryz.prog 85 #[.int .u64 a0, .string a1] w fun e w' => e = .returned (.tuple #[.string r1, .int .i64 r2]) ∧ Below w.heap.size w w' := by
  unfold value_byFormat.f at h
  obtain ⟨⟨t1, t2⟩, ht, h⟩ := Option.bind_eq_some_iff.mp h
  cases t2 with
  | false => cases h
  | true =>
  rw [if_pos rfl] at h
  cases h
  go_enter Tryz.func85, Tryz.ntmps85
  go_wp2_with fail
  refine (value_Integer.calls k a0 t1 true _ ht ⟨HG.out.below (by repeat (first | exact Below.refl _ _ | apply below_alloc))⟩).mono ?_
  rintro e w1 ⟨rfl, hb⟩
  have HB := Lib.hid hb
  clear hb
  go_wp2_with fail
  go_ret2
  exact ⟨rfl, HB.out⟩

/-! ### value_ToStr: function 61 -/
def value_ToStr.f (k : Nat) (a0_0 : Int) (a0_1 : Int) (a0_2 : ByteArray) (a1 : ByteArray) : Option (ByteArray × Int) := if a0_0 = 1 then (value_byFormat.f k a0_1 a1).bind fun t => (if t.2 = 0 then some t else none) else some (if a0_0 = 2 ∨ a0_0 = 3 then a0_2 else ⟨#[]⟩, 0)
theorem value_ToStr.mono : ∀ a0_0 a0_1 a0_2 a1 k, LeO (value_ToStr.f k a0_0 a0_1 a0_2 a1) (value_ToStr.f (k + 1) a0_0 a0_1 a0_2 a1) := by
  intro a0_0 a0_1 a0_2 a1 k
  unfold value_ToStr.f
  exact LeO.ite (LeO.bind (value_byFormat.mono _ _ _) (fun _ => LeO.refl _)) (LeO.refl _)
theorem value_ToStr.calls (k : Nat) (a0_0 : Int) (a0_1 : Int) (a0_2 : ByteArray) (a1 : ByteArray) (r1 : ByteArray) (r2 : Int) (w : World) (h : value_ToStr.f k a0_0 a0_1 a0_2 a1 = some (r1, r2)) (HG : Aside0 (GW w) := by exact phTextsx4_5) :
    Calls Tryz.prog 61 #[.agg #[.int .i64 a0_0, .int .u64 a0_1, .string a0_2], .string a1] w fun e w' => e = .returned (.tuple #[.string r1, .int .i64 r2]) ∧ Below w.heap.size w w' := by
  unfold value_ToStr.f at h
  by_cases c1 : a0_0 = 1
  · subst c1
    rw [if_pos rfl] at h
    obtain ⟨⟨t1, t2⟩, ht, h⟩ := Option.bind_eq_some_iff.mp h
    split at h
    · rename_i h0
      have h0' : t2 = 0 := h0
      subst h0'
      cases h
      exact ToStr_1 a0_1 a0_2 a1 r1 w fun u hb => (value_byFormat.calls k a0_1 a1 r1 0 u ht ⟨HG.out.below hb⟩)
    · cases h
  · by_cases c2 : a0_0 = 2
    · subst c2
      cases h
      exact (ToStr_2 a0_1 a0_2 a1 w)
    · by_cases c3 : a0_0 = 3
      · subst c3
        cases h
        exact (ToStr_3 a0_1 a0_2 a1 w)
      · have d1 : (a0_0 == 1) = false := beq_eq_false_iff_ne.mpr c1
        have d2 : (a0_0 == 2) = false := beq_eq_false_iff_ne.mpr c2
        have d3 : (a0_0 == 3) = false := beq_eq_false_iff_ne.mpr c3
        rw [if_neg c1, if_neg (by omega)] at h
        cases h
        exact (ToStr_0 a0_0 a0_1 a0_2 a1 w d1 d2 d3)

/-! ### relate_texts: function 62 -/
mutual
def relate_texts.l0 : Nat → ByteArray → ByteArray → Int → Option (Int)
  | 0, _, _, _ => none
  | k + 1, x0, x1, x5 => if x5 < (x0.size : Int) then (relate_texts.j1 k x0 x1 x5 (decide (x5 < (x1.size : Int)))) else (relate_texts.j1 k x0 x1 x5 false)
def relate_texts.j1 : Nat → ByteArray → ByteArray → Int → Bool → Option (Int)
  | 0, _, _, _, _ => none
  | k + 1, x0, x1, x5, x15 => if x15 = true then (if 0 ≤ x5 then (if x5 < (x0.size : Int) then (if x5 < (x1.size : Int) then (if (bt x0 x5) < (bt x1 x5) then (some (-1)) else (if (bt x0 x5) > (bt x1 x5) then (some 1) else (relate_texts.l0 k x0 x1 (wrap64 (x5 + 1))))) else (none)) else (none)) else (none)) else (if (x0.size : Int) < (x1.size : Int) then (some (-1)) else (if (x0.size : Int) > (x1.size : Int) then (some 1) else (some 0)))
end
def relate_texts.f (k : Nat) (a0 : ByteArray) (a1 : ByteArray) : Option (Int) := relate_texts.l0 k a0 a1 0
theorem relate_texts.mono_l : ∀ k, (∀ y0 y1 y2, LeO (relate_texts.l0 k y0 y1 y2) (relate_texts.l0 (k + 1) y0 y1 y2)) ∧ (∀ y0 y1 y2 y3, LeO (relate_texts.j1 k y0 y1 y2 y3) (relate_texts.j1 (k + 1) y0 y1 y2 y3))
  | 0 => ⟨fun _ _ _ r h => by simp [relate_texts.l0] at h, fun _ _ _ _ r h => by simp [relate_texts.j1] at h⟩
  | k + 1 => by
    obtain ⟨ih0, ih1⟩ := relate_texts.mono_l k
    refine ⟨?_, ?_⟩
    · intro y0 y1 y2
      unfold relate_texts.l0
      repeat' first
      | (with_reducible exact ih0 _ _ _)
      | (with_reducible exact ih1 _ _ _ _)
      | (with_reducible exact LeO.refl _)
      | (with_reducible exact LeO.none _)
      | (with_reducible refine LeO.ite ?_ ?_)
      | (with_reducible refine LeO.bind ?_ (fun _ => ?_))
      | exact ih0 _ _ _
      | exact ih1 _ _ _ _
      | exact LeO.none _
      | refine LeO.ite ?_ ?_
      | refine LeO.bind ?_ (fun _ => ?_)
    · intro y0 y1 y2 y3
      unfold relate_texts.j1
      repeat' first
      | (with_reducible exact ih0 _ _ _)
      | (with_reducible exact ih1 _ _ _ _)
      | (with_reducible exact LeO.refl _)
      | (with_reducible exact LeO.none _)
      | (with_reducible refine LeO.ite ?_ ?_)
      | (with_reducible refine LeO.bind ?_ (fun _ => ?_))
      | exact ih0 _ _ _
      | exact ih1 _ _ _ _
      | exact LeO.none _
      | refine LeO.ite ?_ ?_
      | refine LeO.bind ?_ (fun _ => ?_)
theorem relate_texts.mono : ∀ a0 a1 k, LeO (relate_texts.f k a0 a1) (relate_texts.f (k + 1) a0 a1) := by
  intro a0 a1 k
  obtain ⟨ih0, ih1⟩ := relate_texts.mono_l k
  unfold relate_texts.f
  repeat' first
      | (with_reducible exact ih0 _ _ _)
      | (with_reducible exact ih1 _ _ _ _)
      | (with_reducible exact LeO.refl _)
      | (with_reducible exact LeO.none _)
      | (with_reducible refine LeO.ite ?_ ?_)
      | (with_reducible refine LeO.bind ?_ (fun _ => ?_))
      | exact ih0 _ _ _
      | exact ih1 _ _ _ _
      | exact LeO.none _
      | refine LeO.ite ?_ ?_
      | refine LeO.bind ?_ (fun _ => ?_)
theorem relate_texts.w1 {P : Prop} (h : P := by
  go_wp2
  repeat (go_quiet (fail); try go_wp2)
  go_ret
  exact ⟨by first | rfl | (simp; done) | (simp [*]; done), by exact phTextsx4_4⟩) : P := h
set_option maxHeartbeats 8000000 in
set_option maxRecDepth 100000 in
theorem relate_texts.calls (k : Nat) (a0 : ByteArray) (a1 : ByteArray) (r : Int) (w : World) (h : relate_texts.f k a0 a1 = some r) (HG : Aside0 (GW w) := by exact phTextsx4_5) :
    Calls Tryz.prog 62 #[.string a0, .string a1] w fun e w' => e = .returned (.int .i64 r) ∧ Drawn0 w w' := by
  have H : (relate_texts.l0 k a0 a1 0) = some r := h
  clear h
  have H' := Aside0.mk H
  clear H
  go_enter Tryz.func62, Tryz.ntmps62
  go_wp2
  repeat (go_quiet (fail); try go_wp2)
  go_loopg [5] k (fun kq v5 w' => ∃ (x5_1 : Int), v5 = .int .i64 x5_1 ∧ Aside0 (relate_texts.l0 kq a0 a1 x5_1 = some r) ∧ Aside0 (kq ≤ k) ∧ Drawn0 w w')
  case atStart => exact ⟨(0), (by first | rfl | (simp; done) | (simp [*]; done)), H', ⟨Nat.le_refl _⟩, by exact phTextsx4_4⟩
  case round =>
    clear H'
    try clear p2
    obtain ⟨x5_1, rfl, HA, HK1, ⟨m1, rfl⟩⟩ := hrel
    cases gk with
    | zero => exact absurd HA.out (by simp [relate_texts.l0])
    | succ k1 =>
      have H := HA.out
      clear HA
      simp only [relate_texts.l0] at H
      have HC3 := Aside0.mk H
      clear H
      go_upto_region 2 with (fail)
      repeat (go_quiet (fail); go_upto_region 2 with (fail))
      go_cut [15] (fun v15 wc => ∃ (kq : Nat) (x15_2 : Bool), v15 = .bool x15_2 ∧ Aside0 (relate_texts.j1 kq a0 a1 x5_1 x15_2 = some r) ∧ Aside0 (kq ≤ k1) ∧ Drawn0 w wc)
      case first =>
        have H := HC3.out
        clear HC3
        by_cases c4 : x5_1 < (a0.size : Int)
        · rw [if_pos c4] at H
          have c4b0 : decide (x5_1 < (a0.size : Int)) = true := decide_eq_true c4
          clear c4
          (first | rw [c4b0] | (simp only [i64_w, i32_w]; rw [c4b0]) | skip)
          have H' := Aside0.mk H
          clear H
          go_wp2
          repeat (go_quiet (fail); try go_wp2)
          go_meet
          case rel => exact ⟨_, (decide (x5_1 < (a1.size : Int))), (by first | rfl | (simp; done) | (simp [*]; done)), H', ⟨by have := HK1.out; first | omega | exact Nat.le_refl _⟩, by exact phTextsx4_4⟩
        · rw [if_neg c4] at H
          have c4b0 : decide (x5_1 < (a0.size : Int)) = false := decide_eq_false c4
          clear c4
          (first | rw [c4b0] | (simp only [i64_w, i32_w]; rw [c4b0]) | skip)
          have H' := Aside0.mk H
          clear H
          go_wp2
          repeat (go_quiet (fail); try go_wp2)
          go_meet
          case rel => exact ⟨_, (false), (by first | rfl | (simp; done) | (simp [*]; done)), H', ⟨by have := HK1.out; first | omega | exact Nat.le_refl _⟩, by exact phTextsx4_4⟩
      case rest =>
        clear HC3
        try clear p2
        try clear c4
        try clear c4b0
        try clear p2
        obtain ⟨kq, x15_2, rfl, HA, HJ2, ⟨mc2, rfl⟩⟩ := hcut
        cases kq with
        | zero => exact absurd HA.out (by simp [relate_texts.j1])
        | succ kj2 =>
          have H := HA.out
          clear HA
          simp only [relate_texts.j1] at H
          by_cases c5 : x15_2 = true
          · subst c5
            have H1 : (if 0 ≤ x5_1 then (if x5_1 < (a0.size : Int) then (if x5_1 < (a1.size : Int) then (if (bt a0 x5_1) < (bt a1 x5_1) then (some (-1)) else (if (bt a0 x5_1) > (bt a1 x5_1) then (some 1) else (relate_texts.l0 kj2 a0 a1 (wrap64 (x5_1 + 1))))) else (none)) else (none)) else (none)) = some r := by rw [if_pos rfl] at H; exact H
            clear H
            have H := H1
            clear H1
            by_cases c6 : 0 ≤ x5_1
            · rw [if_pos c6] at H
              have c6b0 : decide (0 ≤ x5_1) = true := decide_eq_true c6
              clear c6
              by_cases c7 : x5_1 < (a0.size : Int)
              · rw [if_pos c7] at H
                have c7b0 : decide (x5_1 < (a0.size : Int)) = true := decide_eq_true c7
                clear c7
                by_cases c9 : x5_1 < (a1.size : Int)
                · rw [if_pos c9] at H
                  have c9b0 : decide (x5_1 < (a1.size : Int)) = true := decide_eq_true c9
                  clear c9
                  by_cases c11 : (bt a0 x5_1) < (bt a1 x5_1)
                  · rw [if_pos c11] at H
                    have c11b0 : decide ((bt a0 x5_1) < (bt a1 x5_1)) = true := decide_eq_true c11
                    clear c11
                    obtain rfl := Option.some.inj H
                    have p8 : 0 ≤ (x5_1 : Int) := of_decide_eq_true (by exact phTextsx4_1)
                    have q8 : x5_1 < (a0.size : Int) := of_decide_eq_true (by exact phTextsx4_1)
                    have hx8 := bt_at a0 x5_1
                    replace p8 := eq_true p8
                    replace q8 := eq_true q8
                    have p10 : 0 ≤ (x5_1 : Int) := of_decide_eq_true (by exact phTextsx4_1)
                    have q10 : x5_1 < (a1.size : Int) := of_decide_eq_true (by exact phTextsx4_1)
                    have hx10 := bt_at a1 x5_1
                    replace p10 := eq_true p10
                    replace q10 := eq_true q10
                    exact relate_texts.w1
                  · rw [if_neg c11] at H
                    have c11b0 : decide ((bt a0 x5_1) < (bt a1 x5_1)) = false := decide_eq_false c11
                    clear c11
                    by_cases c14 : (bt a0 x5_1) > (bt a1 x5_1)
                    · rw [if_pos c14] at H
                      have c14b0 : decide ((bt a1 x5_1) < (bt a0 x5_1)) = true := decide_eq_true c14
                      clear c14
                      obtain rfl := Option.some.inj H
                      have p8 : 0 ≤ (x5_1 : Int) := of_decide_eq_true (by exact phTextsx4_1)
                      have q8 : x5_1 < (a0.size : Int) := of_decide_eq_true (by exact phTextsx4_1)
                      have hx8 := bt_at a0 x5_1
                      replace p8 := eq_true p8
                      replace q8 := eq_true q8
                      have p10 : 0 ≤ (x5_1 : Int) := of_decide_eq_true (by exact phTextsx4_1)
                      have q10 : x5_1 < (a1.size : Int) := of_decide_eq_true (by exact phTextsx4_1)
                      have hx10 := bt_at a1 x5_1
                      replace p10 := eq_true p10
                      replace q10 := eq_true q10
                      have p12 : 0 ≤ (x5_1 : Int) := of_decide_eq_true (by exact phTextsx4_1)
                      have q12 : x5_1 < (a0.size : Int) := of_decide_eq_true (by exact phTextsx4_1)
                      have hx12 := bt_at a0 x5_1
                      replace p12 := eq_true p12
                      replace q12 := eq_true q12
                      have p13 : 0 ≤ (x5_1 : Int) := of_decide_eq_true (by exact phTextsx4_1)
                      have q13 : x5_1 < (a1.size : Int) := of_decide_eq_true (by exact phTextsx4_1)
                      have hx13 := bt_at a1 x5_1
                      replace p13 := eq_true p13
                      replace q13 := eq_true q13
                      exact relate_texts.w1
                    · rw [if_neg c14] at H
                      have c14b0 : decide ((bt a1 x5_1) < (bt a0 x5_1)) = false := decide_eq_false c14
                      clear c14
                      have H' := Aside0.mk H
                      clear H
                      have p8 : 0 ≤ (x5_1 : Int) := of_decide_eq_true (by exact phTextsx4_1)
                      have q8 : x5_1 < (a0.size : Int) := of_decide_eq_true (by exact phTextsx4_1)
                      have hx8 := bt_at a0 x5_1
                      replace p8 := eq_true p8
                      replace q8 := eq_true q8
                      have p10 : 0 ≤ (x5_1 : Int) := of_decide_eq_true (by exact phTextsx4_1)
                      have q10 : x5_1 < (a1.size : Int) := of_decide_eq_true (by exact phTextsx4_1)
                      have hx10 := bt_at a1 x5_1
                      replace p10 := eq_true p10
                      replace q10 := eq_true q10
                      have p12 : 0 ≤ (x5_1 : Int) := of_decide_eq_true (by exact phTextsx4_1)
                      have q12 : x5_1 < (a0.size : Int) := of_decide_eq_true (by exact phTextsx4_1)
                      have hx12 := bt_at a0 x5_1
                      replace p12 := eq_true p12
                      replace q12 := eq_true q12
                      have p13 : 0 ≤ (x5_1 : Int) := of_decide_eq_true (by exact phTextsx4_1)
                      have q13 : x5_1 < (a1.size : Int) := of_decide_eq_true (by exact phTextsx4_1)
                      have hx13 := bt_at a1 x5_1
                      replace p13 := eq_true p13
                      replace q13 := eq_true q13
                      go_wp2
                      repeat (go_quiet (fail); try go_wp2)
                      go_roundg kj2
                      case measure => have := HK1.out; have := HJ2.out; omega
                      case rel => exact ⟨(wrap64 (x5_1 + 1)), (by first | rfl | (simp; done) | (simp [*]; done)), H', ⟨by have := HK1.out; have := HJ2.out; omega⟩, by exact phTextsx4_4⟩
                · rw [if_neg c9] at H
                  exact absurd H (by simp)
              · rw [if_neg c7] at H
                exact absurd H (by simp)
            · rw [if_neg c6] at H
              exact absurd H (by simp)
          · replace c5 := Bool.eq_false_iff.mpr c5
            subst c5
            have H1 : (if (a0.size : Int) < (a1.size : Int) then (some (-1)) else (if (a0.size : Int) > (a1.size : Int) then (some 1) else (some 0))) = some r := by rw [if_neg (show ¬ (false = true) by decide)] at H; exact H
            clear H
            have H := H1
            clear H1
            by_cases c15 : (a0.size : Int) < (a1.size : Int)
            · rw [if_pos c15] at H
              have c15b0 : decide ((a0.size : Int) < (a1.size : Int)) = true := decide_eq_true c15
              have c15b1 : decide (a0.size < a1.size) = true := decide_eq_true (Int.ofNat_lt.mp c15)
              clear c15
              obtain rfl := Option.some.inj H
              exact relate_texts.w1
            · rw [if_neg c15] at H
              have c15b0 : decide ((a0.size : Int) < (a1.size : Int)) = false := decide_eq_false c15
              have c15b1 : decide (a0.size < a1.size) = false := decide_eq_false (fun h => c15 (Int.ofNat_lt.mpr h))
              clear c15
              by_cases c16 : (a0.size : Int) > (a1.size : Int)
              · rw [if_pos c16] at H
                have c16b0 : decide ((a1.size : Int) < (a0.size : Int)) = true := decide_eq_true c16
                have c16b1 : decide (a1.size < a0.size) = true := decide_eq_true (Int.ofNat_lt.mp c16)
                clear c16
                obtain rfl := Option.some.inj H
                exact relate_texts.w1
              · rw [if_neg c16] at H
                have c16b0 : decide ((a1.size : Int) < (a0.size : Int)) = false := decide_eq_false c16
                have c16b1 : decide (a1.size < a0.size) = false := decide_eq_false (fun h => c16 (Int.ofNat_lt.mpr h))
                clear c16
                obtain rfl := Option.some.inj H
                exact relate_texts.w1

end Go.Proofs.YtoanmnhkhookfaaGreatDoor.PXRelateTexts
