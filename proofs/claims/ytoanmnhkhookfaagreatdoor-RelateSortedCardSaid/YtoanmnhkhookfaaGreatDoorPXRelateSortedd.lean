/- The machine's side of a law, printed by a program of this session out of the translation; conditions: none. -/
import Derived.Test.YtoanmnhkhookfaaGreatDoorPXRelateTextsx0
import Derived.Test.YtoanmnhkhookfaaGreatDoorPXRelateTextsx1
import Derived.Test.YtoanmnhkhookfaaGreatDoorPXRelateTextsx2
import Derived.Test.YtoanmnhkhookfaaGreatDoorPXRelateTextsx3
import Derived.Test.YtoanmnhkhookfaaGreatDoorPXRelateTextsx4
import Derived.Test.YtoanmnhkhookfaaGreatDoorPXRelateTextsx5
import Derived.Test.YtoanmnhkhookfaaGreatDoorPXRelateTextsx6
import Derived.Test.YtoanmnhkhookfaaGreatDoorPXRelateTextsx7
import Derived.Test.YtoanmnhkhookfaaGreatDoorPXAwake
import Derived.Test.YtoanmnhkhookfaaGreatDoorEval
import Derived.Test.YtoanmnhkhookfaaGreatDoorValues
namespace Go.Proofs.YtoanmnhkhookfaaGreatDoor.PXRelateSorted
open Go.Proofs.YtoanmnhkhookfaaGreatDoor Go.Proofs.YtoanmnhkhookfaaGreatDoor.PXRelateTexts
open Go.RowKit Go.Proofs.YtoanmnhkhookfaaGreatDoorW.PrintWords Go.Proofs.YtoanmnhkhookfaaGreatDoorW.PrintLast Go.Proofs.YtoanmnhkhookfaaGreatDoorW.PrintMore
attribute [local go_sem] max2_int min2_int max_two min_two max_three min_three max_four min_four   -- for this text's walks alone
set_option linter.unusedVariables false
set_option linter.unusedSimpArgs false

theorem ph1 {P : Prop} (h : P := by first | (with_reducible assumption) | assumption) : P := h
theorem ph2 {P : Prop} (h : P := by repeat (first | (with_reducible first | exact HB.out | apply below_alloc | apply pw_below_drewN | apply below_drew1) | exact HB.out)) : P := h
theorem ph3 {P : Prop} (h : P := by (with_reducible repeat (first | apply Kd.R_alloc | apply Kd.R_drewN | apply Kd.R_drew)); exact HO_6.out) : P := h
theorem ph4 {P : Prop} (h : P := by (with_reducible repeat (first | apply Kd.R_alloc | apply Kd.R_drewN | apply Kd.R_drew)); exact HO_8.out) : P := h
theorem ph5 {P : Prop} (h : P := by (with_reducible repeat (first | apply Kd.R_alloc | apply Kd.R_drewN | apply Kd.R_drew)); exact HO_7.out) : P := h
theorem ph6 {P : Prop} (h : P := by first | rfl | (simp; done) | (simp [*]; done)) : P := h
theorem ph7 {P : Prop} (h : P := by (try simp only [List.map_toArray, List.map_cons, List.map_nil]); first | done | rfl | (simp only [List.length_drop, List.length_take]; rfl)) : P := h
theorem ph8 {P : Prop} (h : P := by (with_reducible repeat (first | apply Kd.R_alloc | apply Kd.R_drewN | apply Kd.R_drew)); exact HO280.out) : P := h
theorem ph9 {P : Prop} (h : P := by (with_reducible repeat (first | apply Kd.R_alloc | apply Kd.R_drewN | apply Kd.R_drew)); exact HO260.out) : P := h
theorem ph10 {P : Prop} (h : P := by first | rfl | (simp [errW_none, errW_some] <;> rfl) | (simp only [append_nothing]; done) | (simp only [append_nothing]; rfl) | (simp [*, errW_none, errW_some] <;> rfl)) : P := h
theorem ph11 {P : Prop} (h : P := by (try simp only [List.map_toArray, List.map_cons, List.map_nil]); first | done | (simp only [hji37]; rfl) | rfl | (simp only [List.length_drop, List.length_take]; rfl)) : P := h
theorem ph12 {P : Prop} (h : P := by (with_reducible repeat (first | apply Kd.R_alloc | apply Kd.R_drewN | apply Kd.R_drew)); exact HO263.out) : P := h
theorem ph13 {P : Prop} (h : P := by (with_reducible repeat (first | apply Kd.R_alloc | apply Kd.R_drewN | apply Kd.R_drew)); exact HO290.out) : P := h
theorem ph14 {P : Prop} (h : P := by (with_reducible repeat (first | apply Kd.R_alloc | apply Kd.R_drewN | apply Kd.R_drew)); exact HO_11.out) : P := h
theorem ph15 {P : Prop} (h : P := by (with_reducible repeat (first | apply Kd.R_alloc | apply Kd.R_drewN | apply Kd.R_drew)); exact HO_12.out) : P := h
theorem ph16 {P : Prop} (h : P := by first | (with_reducible exact HG) | exact ⟨GW.below HG.out (by repeat (first | (with_reducible first | exact HB.out | apply below_alloc | apply pw_below_drewN | apply below_drew1) | (with_reducible refine below_set ?_ (Aside0.out (by assumption))) | exact HB.out | exact Below.refl _ _))⟩ | exact ⟨GW.drewN HG.out _⟩ | exact ⟨GW.drew HG.out⟩ | exact ⟨GW.drewN (GW.drewN HG.out _) _⟩ | exact ⟨GW.drewN (GW.drew HG.out) _⟩) : P := h
theorem ph17 {P : Prop} (h : P := by repeat (first | (with_reducible first | exact HB.out | apply below_alloc | apply pw_below_drewN | apply below_drew1) | (with_reducible refine below_set ?_ (Aside0.out (by assumption))) | exact HB.out | exact Below.refl _ _)) : P := h
theorem ph18 {P : Prop} (h : P := by first | rfl | (simp [errW_none, errW_some] <;> rfl) | (simp only [append_nothing]; done) | (simp only [append_nothing]; rfl) | (simp only [← hji37]; first | rfl | (simp [errW_none, errW_some] <;> rfl)) | (simp [*, errW_none, errW_some] <;> rfl)) : P := h
theorem info4 : (Tryz.prog.info? 4).map (fun i => (i.zero, i.size, i.bytes)) = some (some (.bool false), 1, 1) := by kernel_rfl

/-! ### abacuslaw18_values: function 24 -/
def abacuslaw18_values.f (l0 : List S29) : Option (List S29) := if l0.length < 4398046511104 then some l0 else none
theorem abacuslaw18_values.calls (A0 : Option Addr) (c0 : Nat) (l0 : List S29) (r : List S29) (w : World) (hr0 : Kd.C k29 w A0 l0.length l0) (hc0 : l0.length ≤ c0) (h : abacuslaw18_values.f l0 = some r) (HG : Aside0 (GW w) := by exact ph16) :
    Calls Tryz.prog 24 #[.slice A0 l0.length c0] w fun e w' => ∃ v0_ : Value, e = .returned (v0_) ∧ Kd.R k29 29 w' w.heap.size (fun _ => True) v0_ r ∧ Below w.heap.size w w' := by
  unfold abacuslaw18_values.f at h
  split at h
  · rename_i hs
    cases h
    exact values_walk A0 c0 l0 w hr0 hs
  · cases h

/-! ### abacuslaw18_RelateSorted: function 5 -/
mutual
def abacuslaw18_RelateSorted.l0 : Nat → List (S29) → Int → List Int → List Bool → List (S29) → Int → Option (Bool)
  | 0, _, _, _, _, _, _ => none
  | k + 1, x0, x1, x6, x7, x8, x9 => if x9 < (x6.length : Int) then (if 0 ≤ x9 then (if (rd x6 x9) < 0 then (abacuslaw18_RelateSorted.j1 k x0 x1 x6 x7 x8 x9 true) else (if (rd x6 x9) ≥ (x0.length : Int) then (abacuslaw18_RelateSorted.j1 k x0 x1 x6 x7 x8 x9 true) else (if 0 ≤ (rd x6 x9) then (if (rd x6 x9) < (x7.length : Int) then (abacuslaw18_RelateSorted.j1 k x0 x1 x6 x7 x8 x9 (rdOf false x7 (rd x6 x9))) else (none)) else (none)))) else (none)) else ((relate_Sort.f x8).bind fun t288 => ((abacuslaw18_values.f x0).bind fun t291 => ((relate_Top.f t291 x1).bind fun t294 => (if (t288.length : Int) = (x6.length : Int) then (abacuslaw18_RelateSorted.j2 k x6 t288 t294 ((t294.length : Int) != (mn (mx x1 0) (x6.length : Int)))) else (abacuslaw18_RelateSorted.j2 k x6 t288 t294 true)))))
def abacuslaw18_RelateSorted.j1 : Nat → List (S29) → Int → List Int → List Bool → List (S29) → Int → Bool → Option (Bool)
  | 0, _, _, _, _, _, _, _ => none
  | k + 1, x0, x1, x6, x7, x8, x9, x59 => if x59 = true then (some false) else (if 0 ≤ x9 then (if x9 < (x6.length : Int) then (if 0 ≤ (rd x6 x9) then (if (rd x6 x9) < (x7.length : Int) then ((some (x7.set ((rd x6 x9) : Int).toNat true : List Bool)).bind fun y275 => (if (rd x6 x9) < (x0.length : Int) then (if x8.length < 4398046511104 then ((some (x8 ++ [(⟨(rd_T29 x0 (rd x6 x9)).f0, (rd_T29 x0 (rd x6 x9)).f1, (rd_T29 x0 (rd x6 x9)).f2⟩ : S29)] : List (S29))).bind fun y278 => (if x9 > 0 then (if 0 ≤ (wrap64 (x9 - 1)) then (if (wrap64 (x9 - 1)) < (x6.length : Int) then (if 0 ≤ (rd x6 (wrap64 (x9 - 1))) then (if (rd x6 (wrap64 (x9 - 1))) < (x0.length : Int) then ((relate_Order.f k ((rd_T29 x0 (rd x6 (wrap64 (x9 - 1)))).f0) ((rd_T29 x0 (rd x6 (wrap64 (x9 - 1)))).f1) ((rd_T29 x0 (rd x6 (wrap64 (x9 - 1)))).f2) ((rd_T29 x0 (rd x6 x9)).f0) ((rd_T29 x0 (rd x6 x9)).f1) ((rd_T29 x0 (rd x6 x9)).f2)).bind fun t285 => (if t285 > 0 then (some false) else (if t285 = 0 then (if (rd x6 (wrap64 (x9 - 1))) > (rd x6 x9) then (some false) else (abacuslaw18_RelateSorted.l0 k x0 x1 x6 y275 y278 (wrap64 (x9 + 1)))) else (abacuslaw18_RelateSorted.l0 k x0 x1 x6 y275 y278 (wrap64 (x9 + 1)))))) else (none)) else (none)) else (none)) else (none)) else (abacuslaw18_RelateSorted.l0 k x0 x1 x6 y275 y278 (wrap64 (x9 + 1))))) else (none)) else (none))) else (none)) else (none)) else (none)) else (none))
def abacuslaw18_RelateSorted.j2 : Nat → List Int → List Int → List Int → Bool → Option (Bool)
  | 0, _, _, _, _ => none
  | k + 1, x6, x11, x12, x132 => if x132 = true then (some false) else (abacuslaw18_RelateSorted.l1 k x6 x11 x12 0)
def abacuslaw18_RelateSorted.l1 : Nat → List Int → List Int → List Int → Int → Option (Bool)
  | 0, _, _, _, _ => none
  | k + 1, x6, x11, x12, x13 => if x13 < (x11.length : Int) then (if 0 ≤ x13 then (if (rd x11 x13) = x13 then (if x13 < (x12.length : Int) then (if x13 < (x6.length : Int) then (if (rd x12 x13) = (rd x6 x13) then (abacuslaw18_RelateSorted.l1 k x6 x11 x12 (wrap64 (x13 + 1))) else (some false)) else (none)) else (abacuslaw18_RelateSorted.l1 k x6 x11 x12 (wrap64 (x13 + 1)))) else (some false)) else (none)) else (some true)
end
def abacuslaw18_RelateSorted.f (k : Nat) (l0 : List (S29)) (a1 : Int) : Option (Bool) := (abacuslaw18_awake.f k).bind fun t257 => (if t257 = true then ((abacuslaw18_values.f l0).bind fun t258 => ((relate_Sort.f t258).bind fun t261 => (if (t261.length : Int) = (l0.length : Int) then (if 0 ≤ (l0.length : Int) then (if ((l0.length : Int) : Int).toNat ≤ 281474976710656 then (if ((l0.length : Int) : Int).toNat ≤ 8796093022208 then (abacuslaw18_RelateSorted.l0 k l0 a1 t261 (List.replicate ((l0.length : Int) : Int).toNat false) (List.replicate 0 z29) 0) else (none)) else (none)) else (none)) else (some false)))) else (some false))
theorem abacuslaw18_RelateSorted.mono_l : ∀ k, (∀ y0 y1 y2 y3 y4 y5, LeO (abacuslaw18_RelateSorted.l0 k y0 y1 y2 y3 y4 y5) (abacuslaw18_RelateSorted.l0 (k + 1) y0 y1 y2 y3 y4 y5)) ∧ (∀ y0 y1 y2 y3 y4 y5 y6, LeO (abacuslaw18_RelateSorted.j1 k y0 y1 y2 y3 y4 y5 y6) (abacuslaw18_RelateSorted.j1 (k + 1) y0 y1 y2 y3 y4 y5 y6)) ∧ (∀ y0 y1 y2 y3, LeO (abacuslaw18_RelateSorted.j2 k y0 y1 y2 y3) (abacuslaw18_RelateSorted.j2 (k + 1) y0 y1 y2 y3)) ∧ (∀ y0 y1 y2 y3, LeO (abacuslaw18_RelateSorted.l1 k y0 y1 y2 y3) (abacuslaw18_RelateSorted.l1 (k + 1) y0 y1 y2 y3))
  | 0 => ⟨fun _ _ _ _ _ _ r h => by simp [abacuslaw18_RelateSorted.l0] at h, fun _ _ _ _ _ _ _ r h => by simp [abacuslaw18_RelateSorted.j1] at h, fun _ _ _ _ r h => by simp [abacuslaw18_RelateSorted.j2] at h, fun _ _ _ _ r h => by simp [abacuslaw18_RelateSorted.l1] at h⟩
  | k + 1 => by
    obtain ⟨ih0, ih1, ih2, ih3⟩ := abacuslaw18_RelateSorted.mono_l k
    refine ⟨?_, ?_, ?_, ?_⟩
    · intro y0 y1 y2 y3 y4 y5
      unfold abacuslaw18_RelateSorted.l0
      repeat' first
      | (with_reducible exact ih0 _ _ _ _ _ _)
      | (with_reducible exact ih1 _ _ _ _ _ _ _)
      | (with_reducible exact ih2 _ _ _ _)
      | (with_reducible exact ih3 _ _ _ _)
      | (with_reducible exact abacuslaw18_awake.mono _)
      | (with_reducible exact relate_Order.mono _ _ _ _ _ _ _)
      | (with_reducible exact LeO.refl _)
      | (with_reducible exact LeO.none _)
      | (with_reducible refine LeO.ite ?_ ?_)
      | (with_reducible refine LeO.bind ?_ (fun _ => ?_))
      | exact ih0 _ _ _ _ _ _
      | exact ih1 _ _ _ _ _ _ _
      | exact ih2 _ _ _ _
      | exact ih3 _ _ _ _
      | exact abacuslaw18_awake.mono _
      | exact relate_Order.mono _ _ _ _ _ _ _
      | exact LeO.none _
      | refine LeO.ite ?_ ?_
      | refine LeO.bind ?_ (fun _ => ?_)
    · intro y0 y1 y2 y3 y4 y5 y6
      unfold abacuslaw18_RelateSorted.j1
      repeat' first
      | (with_reducible exact ih0 _ _ _ _ _ _)
      | (with_reducible exact ih1 _ _ _ _ _ _ _)
      | (with_reducible exact ih2 _ _ _ _)
      | (with_reducible exact ih3 _ _ _ _)
      | (with_reducible exact abacuslaw18_awake.mono _)
      | (with_reducible exact relate_Order.mono _ _ _ _ _ _ _)
      | (with_reducible exact LeO.refl _)
      | (with_reducible exact LeO.none _)
      | (with_reducible refine LeO.ite ?_ ?_)
      | (with_reducible refine LeO.bind ?_ (fun _ => ?_))
      | exact ih0 _ _ _ _ _ _
      | exact ih1 _ _ _ _ _ _ _
      | exact ih2 _ _ _ _
      | exact ih3 _ _ _ _
      | exact abacuslaw18_awake.mono _
      | exact relate_Order.mono _ _ _ _ _ _ _
      | exact LeO.none _
      | refine LeO.ite ?_ ?_
      | refine LeO.bind ?_ (fun _ => ?_)
    · intro y0 y1 y2 y3
      unfold abacuslaw18_RelateSorted.j2
      repeat' first
      | (with_reducible exact ih0 _ _ _ _ _ _)
      | (with_reducible exact ih1 _ _ _ _ _ _ _)
      | (with_reducible exact ih2 _ _ _ _)
      | (with_reducible exact ih3 _ _ _ _)
      | (with_reducible exact abacuslaw18_awake.mono _)
      | (with_reducible exact relate_Order.mono _ _ _ _ _ _ _)
      | (with_reducible exact LeO.refl _)
      | (with_reducible exact LeO.none _)
      | (with_reducible refine LeO.ite ?_ ?_)
      | (with_reducible refine LeO.bind ?_ (fun _ => ?_))
      | exact ih0 _ _ _ _ _ _
      | exact ih1 _ _ _ _ _ _ _
      | exact ih2 _ _ _ _
      | exact ih3 _ _ _ _
      | exact abacuslaw18_awake.mono _
      | exact relate_Order.mono _ _ _ _ _ _ _
      | exact LeO.none _
      | refine LeO.ite ?_ ?_
      | refine LeO.bind ?_ (fun _ => ?_)
    · intro y0 y1 y2 y3
      unfold abacuslaw18_RelateSorted.l1
      repeat' first
      | (with_reducible exact ih0 _ _ _ _ _ _)
      | (with_reducible exact ih1 _ _ _ _ _ _ _)
      | (with_reducible exact ih2 _ _ _ _)
      | (with_reducible exact ih3 _ _ _ _)
      | (with_reducible exact abacuslaw18_awake.mono _)
      | (with_reducible exact relate_Order.mono _ _ _ _ _ _ _)
      | (with_reducible exact LeO.refl _)
      | (with_reducible exact LeO.none _)
      | (with_reducible refine LeO.ite ?_ ?_)
      | (with_reducible refine LeO.bind ?_ (fun _ => ?_))
      | exact ih0 _ _ _ _ _ _
      | exact ih1 _ _ _ _ _ _ _
      | exact ih2 _ _ _ _
      | exact ih3 _ _ _ _
      | exact abacuslaw18_awake.mono _
      | exact relate_Order.mono _ _ _ _ _ _ _
      | exact LeO.none _
      | refine LeO.ite ?_ ?_
      | refine LeO.bind ?_ (fun _ => ?_)
theorem abacuslaw18_RelateSorted.mono : ∀ a0 a1 k, LeO (abacuslaw18_RelateSorted.f k a0 a1) (abacuslaw18_RelateSorted.f (k + 1) a0 a1) := by
  intro a0 a1 k
  obtain ⟨ih0, ih1, ih2, ih3⟩ := abacuslaw18_RelateSorted.mono_l k
  unfold abacuslaw18_RelateSorted.f
  repeat' first
      | (with_reducible exact ih0 _ _ _ _ _ _)
      | (with_reducible exact ih1 _ _ _ _ _ _ _)
      | (with_reducible exact ih2 _ _ _ _)
      | (with_reducible exact ih3 _ _ _ _)
      | (with_reducible exact abacuslaw18_awake.mono _)
      | (with_reducible exact relate_Order.mono _ _ _ _ _ _ _)
      | (with_reducible exact LeO.refl _)
      | (with_reducible exact LeO.none _)
      | (with_reducible refine LeO.ite ?_ ?_)
      | (with_reducible refine LeO.bind ?_ (fun _ => ?_))
      | exact ih0 _ _ _ _ _ _
      | exact ih1 _ _ _ _ _ _ _
      | exact ih2 _ _ _ _
      | exact ih3 _ _ _ _
      | exact abacuslaw18_awake.mono _
      | exact relate_Order.mono _ _ _ _ _ _ _
      | exact LeO.none _
      | refine LeO.ite ?_ ?_
      | refine LeO.bind ?_ (fun _ => ?_)
def abacuslaw18_RelateSorted.T17 : Bool × List (List Nat × List Nat) := (true, [([], []), ([], []), ([], []), ([2], [2]), ([1, 3], [1, 3]), ([4], [4]), ([0, 5], [0, 5]), ([6], [6]), ([], []), ([], []), ([], []), ([9, 10], [9, 10]), ([11], [11]), ([8, 12], [8, 12]), ([13], [13]), ([7, 14], [7, 14]), ([15, 15, 0, 1, 2, 3, 4, 5, 6, 7, 8, 9, 10, 11, 12, 13, 14, 15], [15])])
def abacuslaw18_RelateSorted.B17 : List Nat := [0, 0, 0, 4, 14, 30, 63, 127, 0, 0, 0, 1536, 3584, 7936, 16128, 32767, 65535]
theorem abacuslaw18_RelateSorted.tab17 : rtab .any (opsOf Tryz.f5 17) = abacuslaw18_RelateSorted.T17 := by kernel_rfl
theorem abacuslaw18_RelateSorted.bits17 : waitsOk abacuslaw18_RelateSorted.T17.2 abacuslaw18_RelateSorted.B17 = true := by kernel_rfl
def abacuslaw18_RelateSorted.T18 : Bool × List (List Nat × List Nat) := (true, [([], []), ([0], [0]), ([1], [1]), ([2], [2]), ([3, 2], [2, 3]), ([4, 2, 2], [2, 4]), ([5], [5]), ([5], [5]), ([7, 5], [5, 7]), ([6, 8, 5], [5, 6, 8]), ([9, 5], [5, 9]), ([5], [5]), ([5], [5]), ([11, 12, 5], [5, 11, 12]), ([13, 5], [5, 13]), ([10, 14, 5], [5, 10, 14]), ([5, 15, 2], [2, 5, 15]), ([2, 16], [2, 16])])
def abacuslaw18_RelateSorted.B18 : List Nat := [0, 1, 3, 7, 15, 31, 63, 63, 191, 511, 1023, 63, 63, 6207, 14399, 32767, 65535, 131071]
theorem abacuslaw18_RelateSorted.tab18 : rtab .any (opsOf Tryz.f5 18) = abacuslaw18_RelateSorted.T18 := by kernel_rfl
theorem abacuslaw18_RelateSorted.bits18 : waitsOk abacuslaw18_RelateSorted.T18.2 abacuslaw18_RelateSorted.B18 = true := by kernel_rfl
def abacuslaw18_RelateSorted.T27 : Bool × List (List Nat × List Nat) := (true, [([], []), ([], []), ([0, 1], [0, 1]), ([2], [2]), ([], []), ([3, 4], [3, 4]), ([5], [5]), ([6], [6]), ([6], [6]), ([8, 6], [6, 8]), ([7, 9, 6], [6, 7, 9]), ([10, 6, 6], [6, 10]), ([11], [11]), ([11], [11]), ([12, 13, 11], [11, 12, 13]), ([14, 11], [11, 14]), ([11], [11]), ([11], [11]), ([16, 17, 11], [11, 16, 17]), ([18, 11], [11, 18]), ([15, 19, 11], [11, 15, 19]), ([11, 20, 6], [6, 11, 20]), ([6, 21], [6, 21])])
def abacuslaw18_RelateSorted.B27 : List Nat := [0, 0, 3, 7, 0, 31, 63, 127, 127, 383, 1023, 2047, 4095, 4095, 16383, 32767, 4095, 4095, 200703, 462847, 1048575, 2097151, 4194303]
theorem abacuslaw18_RelateSorted.tab27 : rtab .any (opsOf Tryz.f5 27) = abacuslaw18_RelateSorted.T27 := by kernel_rfl
theorem abacuslaw18_RelateSorted.bits27 : waitsOk abacuslaw18_RelateSorted.T27.2 abacuslaw18_RelateSorted.B27 = true := by kernel_rfl
theorem abacuslaw18_RelateSorted.w1 {P : Prop} (h : P := by
  go_wp2
  go_meet
  case rel => exact ⟨_, (true), (by exact ph6), H', ⟨by have := HK1.out; first | omega | exact Nat.le_refl _⟩, ⟨by exact ph3⟩, ⟨by exact ph5⟩, ⟨by exact ph4⟩, ⟨by exact ph2⟩⟩) : P := h
theorem abacuslaw18_RelateSorted.w2 {P : Prop} (h : P := by
  go_wp2
  go_ret
  exact ⟨by exact ph10, by exact ph2⟩) : P := h
theorem abacuslaw18_RelateSorted.w3 {P : Prop} (h : P := by
  go_enter Tryz.func5, Tryz.ntmps5
  go_wp2_with (first | ((with_reducible refine gate_callee (f := 15) rfl ?_); refine goesL_ (some 14) rfl rfl Tryz.func15 (by kernel_rfl) rfl #[] rfl (by exact ph7) ?_; (with_reducible refine (abacuslaw18_awake.calls k  true _ A3.out).mono ?_); rintro e w107 ⟨rfl, hb⟩; refine ⟨_, rfl, ?_⟩; have n0_ := Aside0.mk (below_step (by exact ph2) hb); clear HB; have HB := n0_; clear n0_; (try clear hb); (try clear hb2); (try clear hk); (try clear hi)) | ((with_reducible refine gate_callee (f := 24) rfl ?_); refine goesL_ (some 18) rfl rfl Tryz.func24 (by kernel_rfl) rfl #[.slice A0 l0.length c0] rfl (by exact ph7) ?_; (with_reducible refine (abacuslaw18_values.calls _ _ l0 t258 _ ?side1 ?side2 A5.out).mono ?_); (case side1 => repeat (first | exact (Kd.C_below HR0.out HB.out) | (with_reducible refine Kd.C_alloc ?_ _) | (with_reducible refine Kd.C_drewN ?_ _) | (with_reducible refine Kd.C_drew ?_))); (case side2 => exact HC0.out); rintro e w108 ⟨v259, rfl, ho0, hb⟩; refine ⟨_, rfl, ?_⟩; have n0_ := Aside0.mk (Kd.R_lower ho0 (below_size (by exact ph2))); have n1_ := Aside0.mk (below_step (by exact ph2) hb); clear HB; have HO260 := n0_; have HB := n1_; clear n0_ n1_; (try clear hb); (try clear hb2); (try clear hk); (try clear hi); (try clear ho0); obtain ⟨Ao109, co109, eo109⟩ := Kd.R_slice HO260.out; subst eo109) | ((with_reducible refine gate_callee (f := 23) rfl ?_); refine goesL_ (some 19) rfl rfl Tryz.func23 (by kernel_rfl) rfl #[.slice Ao109 t258.length co109] rfl (by exact ph7) ?_; (with_reducible refine (relate_Sort.calls _ _ t258 t261 _ ?side1 ?side2 A6.out).mono ?_); (case side1 => repeat (first | exact (Kd.R_reads' HO260.out).2.2 | (with_reducible refine Kd.C_alloc ?_ _) | (with_reducible refine Kd.C_drewN ?_ _) | (with_reducible refine Kd.C_drew ?_))); (case side2 => exact (Kd.R_reads' HO260.out).2.1); rintro e w110 ⟨v262, rfl, ho0, hb⟩; refine ⟨_, rfl, ?_⟩; have n0_ := Aside0.mk (Kd.R_below (by exact ph9) hb); have n1_ := Aside0.mk (Kd.R_lower ho0 (below_size (by exact ph2))); have n2_ := Aside0.mk (below_step (by exact ph2) hb); clear HO260; clear HB; have HO260 := n0_; have HO263 := n1_; have HB := n2_; clear n0_ n1_ n2_; (try clear hb); (try clear hb2); (try clear hk); (try clear hi); (try clear ho0); obtain ⟨Ao111, co111, eo111⟩ := Kd.R_slice HO263.out; subst eo111) | ((with_reducible refine gate_callee (f := 15) rfl ?_); refine goesL_ (some 14) rfl rfl Tryz.func15 (by kernel_rfl) rfl #[] rfl (by exact ph7) ?_; (with_reducible refine (abacuslaw18_awake.calls k  false _ A3.out).mono ?_); rintro e w112 ⟨rfl, hb⟩; refine ⟨_, rfl, ?_⟩; have n0_ := Aside0.mk (below_step (by exact ph2) hb); clear HB; have HB := n0_; clear n0_; (try clear hb); (try clear hb2); (try clear hk); (try clear hi)))
  go_ret
  exact ⟨by exact ph10, by exact ph2⟩) : P := h
end Go.Proofs.YtoanmnhkhookfaaGreatDoor.PXRelateSorted
