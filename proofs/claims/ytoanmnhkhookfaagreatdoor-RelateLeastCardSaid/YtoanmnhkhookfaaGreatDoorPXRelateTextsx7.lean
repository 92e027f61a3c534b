/- The machine's side of a law, printed by a program of this session out of the translation; conditions: none. -/
import Derived.Test.YtoanmnhkhookfaaGreatDoorPXRelateTextsx0
import Derived.Test.YtoanmnhkhookfaaGreatDoorPXRelateTextsx1
import Derived.Test.YtoanmnhkhookfaaGreatDoorPXRelateTextsx4
import Derived.Test.YtoanmnhkhookfaaGreatDoorPXRelateTextsx5
import Derived.Test.YtoanmnhkhookfaaGreatDoorPXRelateTextsx6
namespace Go.Proofs.YtoanmnhkhookfaaGreatDoor.PXRelateTexts
open Go.Proofs.YtoanmnhkhookfaaGreatDoor
open Go.RowKit Go.Proofs.YtoanmnhkhookfaaGreatDoorW.PrintWords Go.Proofs.YtoanmnhkhookfaaGreatDoorW.PrintLast Go.Proofs.YtoanmnhkhookfaaGreatDoorW.PrintMore
attribute [local go_sem] max2_int min2_int max_two min_two max_three min_three max_four min_four   -- for this text's walks alone
set_option linter.unusedVariables false
set_option linter.unusedSimpArgs false

theorem phTextsx7_1 {P : Prop} (h : P := by repeat (first | (with_reducible first | exact HB.out | apply below_alloc | apply pw_below_drewN | apply below_drew1 | refine below_set ?_ GE218.out | refine below_set ?_ GE219.out) | exact HB.out)) : P := h
theorem phTextsx7_2 {P : Prop} (h : P := by (with_reducible repeat (first | refine blk_drewN ?_ _ | refine blk_drew ?_ | refine blk_alloc ?_ _)); exact BK218.out) : P := h
theorem phTextsx7_3 {P : Prop} (h : P := by first | rfl | (simp [errW_none, errW_some] <;> rfl) | (simp only [append_nothing]; done) | (simp only [append_nothing]; rfl) | (simp [*, errW_none, errW_some] <;> rfl)) : P := h
theorem phTextsx7_4 {P : Prop} (h : P := by (with_reducible repeat (first | refine blk_drewN ?_ _ | refine blk_drew ?_ | refine blk_alloc ?_ _)); exact BK219.out) : P := h
theorem phTextsx7_5 {P : Prop} (h : P := by (try simp only [List.map_toArray, List.map_cons, List.map_nil]); first | done | rfl | (simp only [List.length_drop, List.length_take]; rfl)) : P := h
theorem phTextsx7_6 {P : Prop} (h : P := by repeat (first | (with_reducible first | exact HB.out | apply below_alloc | apply pw_below_drewN | apply below_drew1) | exact HB.out)) : P := h
theorem phTextsx7_7 {P : Prop} (h : P := by first | (with_reducible exact HG) | exact ⟨GW.below HG.out (by repeat (first | (with_reducible first | exact HB.out | apply below_alloc | apply pw_below_drewN | apply below_drew1) | (with_reducible refine below_set ?_ (Aside0.out (by assumption))) | exact HB.out | exact Below.refl _ _))⟩ | exact ⟨GW.drewN HG.out _⟩ | exact ⟨GW.drew HG.out⟩ | exact ⟨GW.drewN (GW.drewN HG.out _) _⟩ | exact ⟨GW.drewN (GW.drew HG.out) _⟩) : P := h
theorem phTextsx7_8 {P : Prop} (h : P := by repeat (first | (with_reducible first | exact HB.out | apply below_alloc | apply pw_below_drewN | apply below_drew1) | (with_reducible refine below_set ?_ (Aside0.out (by assumption))) | exact HB.out | exact Below.refl _ _)) : P := h
theorem phTextsx7_9 {P : Prop} (h : P := by repeat (first | (with_reducible first | exact HB.out | apply below_alloc | apply pw_below_drewN | apply below_drew1 | refine below_set ?_ GE218.out) | exact HB.out)) : P := h
/-! ### relate_Top: function 25 -/
/-! relate's order, as the printed functions reckon it -/
theorem class_val (x : Int) : ieee_Class.f x = some (if absI x = 0 then 0 else if absI x < 4503599627370496 then 1 else if absI x < 9218868437227405312 then 2 else if absI x = 9218868437227405312 then 3 else 4) := by
  unfold ieee_Class.f ieee_Abs.f
  rw [Option.bind_some]
  change (if absI x = 0 then some (0 : Int) else if absI x < 4503599627370496 then some 1 else if absI x < 9218868437227405312 then some 2 else if absI x = 9218868437227405312 then some 3 else some 4) = _
  generalize absI x = t
  by_cases c1 : t = 0
  · rw [if_pos c1, if_pos c1]
  · rw [if_neg c1, if_neg c1]
    by_cases c2 : t < 4503599627370496
    · rw [if_pos c2, if_pos c2]
    · rw [if_neg c2, if_neg c2]
      by_cases c3 : t < 9218868437227405312
      · rw [if_pos c3, if_pos c3]
      · rw [if_neg c3, if_neg c3]
        by_cases c4 : t = 9218868437227405312
        · rw [if_pos c4, if_pos c4]
        · rw [if_neg c4, if_neg c4]
theorem toVal_class (a0 : Int) (a1 : Int) (a2 : ByteArray) : relate_class.f a0 a1 a2 = some (classI (a0, a1, a2)) := by
  have hr := abs_range (numI (a0, a1, a2))
  unfold classI
  by_cases h2 : a0 = 2
  · subst h2
    rw [if_pos rfl]
    rfl
  · have hn : (if a0 = 1 ∨ a0 = 3 then a1 else 0) = numI (a0, a1, a2) := rfl
    have hm : value_Numeric.f a0 a1 a2 = some true := by
      unfold value_Numeric.f
      rw [decide_eq_true (by exact h2)]
    have ht : value_ToNum.f a0 a1 a2 = some (numI (a0, a1, a2)) := by
      unfold value_ToNum.f
      rw [if_neg h2, hn]
    unfold relate_class.f
    rw [hm, Option.bind_some, if_pos rfl, ht, Option.bind_some, class_val, Option.bind_some, if_neg (show ¬ (a0, a1, a2).1 = 2 from h2)]
    unfold nanI
    generalize absI (numI (a0, a1, a2)) = t at hr
    by_cases c : t > 9218868437227405312
    · rw [if_pos (decide_eq_true c), if_neg (by omega : ¬ t = 0), if_neg (by omega : ¬ t < 4503599627370496), if_neg (by omega : ¬ t < 9218868437227405312), if_neg (by omega : ¬ t = 9218868437227405312), if_pos rfl]
    · rw [if_neg (show ¬ decide (t > 9218868437227405312) = true by rw [decide_eq_true_eq]; exact c), if_neg]
      split
      · decide
      · split
        · decide
        · split
          · decide
          · split
            · decide
            · omega
theorem texts_from (a b : ByteArray) (ha : a.size ≤ 4611686018427387904) (d : Nat) : ∀ (i : Nat), i ≤ a.size → i ≤ b.size → a.size - i = d → Ev (fun k => relate_texts.l0 k a b (i : Int)) (cmpL (a.data.toList.drop i) (b.data.toList.drop i)) := by
  have sa : a.data.toList.length = a.size := by rw [Array.length_toList]; rfl
  have sb : b.data.toList.length = b.size := by rw [Array.length_toList]; rfl
  induction d with
  | zero =>
    intro i h1 h2 hd
    have hi : i = a.size := by omega
    subst hi
    rw [List.drop_of_length_le (by omega : a.data.toList.length ≤ a.size)]
    refine Ev.step (f := fun k => relate_texts.j1 k a b (a.size : Int) false) (fun k => by simp only [relate_texts.l0]; rw [if_neg (by omega)]) ?_
    refine Ev.step (f := fun _ => some (cmpL [] (b.data.toList.drop a.size))) (fun k => ?_) (Ev.now _)
    simp only [relate_texts.j1]
    rw [if_neg (by simp)]
    by_cases hlt : a.size < b.size
    · rw [if_pos (by omega)]
      cases e : b.data.toList.drop a.size with
      | nil =>
        have := congrArg List.length e
        rw [List.length_drop, sb] at this
        simp at this
        omega
      | cons x xs => rfl
    · rw [if_neg (by omega), if_neg (by omega), List.drop_of_length_le (by omega)]
      rfl
  | succ d ih =>
    intro i h1 h2 hd
    have hia : i < a.size := by omega
    have ea : a.data.toList.drop i = a.data.toList[i]'(by omega) :: a.data.toList.drop (i + 1) := List.drop_eq_getElem_cons (by omega)
    by_cases hib : i < b.size
    · have eb : b.data.toList.drop i = b.data.toList[i]'(by omega) :: b.data.toList.drop (i + 1) := List.drop_eq_getElem_cons (by omega)
      have ba : bt a (i : Int) = ((a.data.toList[i]'(by omega)).toNat : Int) := by
        unfold bt
        rw [Int.toNat_natCast, dif_pos hia]
        rfl
      have bb : bt b (i : Int) = ((b.data.toList[i]'(by omega)).toNat : Int) := by
        unfold bt
        rw [Int.toNat_natCast, dif_pos hib]
        rfl
      rw [ea, eb]
      refine Ev.step (f := fun k => relate_texts.j1 k a b (i : Int) true) (fun k => by simp only [relate_texts.l0]; rw [if_pos (by omega), decide_eq_true (by omega)]) ?_
      have hr := ih (i + 1) (by omega) (by omega) (by omega)
      have hj : ∀ k, relate_texts.j1 (k + 1) a b (i : Int) true = (if (bt a (i : Int)) < (bt b (i : Int)) then (some (-1)) else (if (bt a (i : Int)) > (bt b (i : Int)) then (some 1) else (relate_texts.l0 k a b (((i + 1 : Nat) : Int))))) := fun k => by
        simp only [relate_texts.j1]
        rw [if_pos trivial, if_pos (by omega), if_pos (by omega), if_pos (by omega)]
        have : wrap64 ((i : Int) + 1) = ((i + 1 : Nat) : Int) := by unfold wrap64; omega
        rw [this]
      refine Ev.step hj ?_
      simp only [cmpL]
      by_cases c1 : (a.data.toList[i]'(by omega)).toNat < (b.data.toList[i]'(by omega)).toNat
      · rw [if_pos c1]
        exact Ev.congr (fun k => by rw [if_pos (by omega)]) (Ev.now _)
      · rw [if_neg c1]
        by_cases c2 : (b.data.toList[i]'(by omega)).toNat < (a.data.toList[i]'(by omega)).toNat
        · rw [if_pos c2]
          exact Ev.congr (fun k => by rw [if_neg (by omega), if_pos (by omega)]) (Ev.now _)
        · rw [if_neg c2]
          exact Ev.congr (fun k => by rw [if_neg (by omega), if_neg (by omega)]) hr
    · have eb : b.data.toList.drop i = [] := List.drop_of_length_le (by omega)
      rw [ea, eb]
      refine Ev.step (f := fun k => relate_texts.j1 k a b (i : Int) false) (fun k => by simp only [relate_texts.l0]; rw [if_pos (by omega), decide_eq_false (by omega)]) ?_
      refine Ev.step (f := fun _ => some 1) (fun k => ?_) (Ev.now _)
      simp only [relate_texts.j1]
      rw [if_neg (by simp), if_neg (by omega), if_pos (by omega)]
theorem texts_ev (a b : ByteArray) (ha : a.size ≤ 4611686018427387904) : Ev (fun k => relate_texts.f k a b) (cmpT a b) := by
  have h := texts_from a b ha a.size 0 (Nat.zero_le _) (Nat.zero_le _) (by omega)
  exact h
theorem rank_val (x : Int) : ieee_Rank.f x = if nanI x = true then some (0, false) else some (rankI x, true) := by
  unfold ieee_Rank.f ieee_Abs.f
  rw [Option.bind_some]
  change (if wrap64 (absI x) > 9218868437227405312 then some ((0 : Int), false) else if Go.bits .and .u64 x 9223372036854775808 = 0 then some (wrap64 (absI x), true) else some (wrap64 (-(wrap64 (absI x))), true)) = _
  unfold nanI rankI
  by_cases c : absI x > 9218868437227405312
  · rw [if_pos (by rw [abs_wrap]; exact c), if_pos (decide_eq_true c)]
  · rw [if_neg (by rw [abs_wrap]; exact c), if_neg (show ¬ decide (absI x > 9218868437227405312) = true by rw [decide_eq_true_eq]; exact c)]
    by_cases d : Go.bits .and .u64 x 9223372036854775808 = 0
    · rw [if_pos d, if_pos d]
    · rw [if_neg d, if_neg d]
theorem cmp_val (x y : Int) : ieee_Compare.f x y = if nanI x = true ∨ nanI y = true then some (0, false) else some (ordI (rankI x) (rankI y), true) := by
  unfold ieee_Compare.f
  rw [rank_val, rank_val]
  by_cases cx : nanI x = true
  · rw [if_pos cx, if_pos (Or.inl cx)]
    by_cases cy : nanI y = true
    · rw [if_pos cy]; rfl
    · rw [if_neg cy]; rfl
  · rw [if_neg cx]
    by_cases cy : nanI y = true
    · rw [if_pos cy, if_pos (Or.inr cy)]; rfl
    · rw [if_neg cy, if_neg (show ¬ (nanI x = true ∨ nanI y = true) from fun h => h.elim cx cy), Option.bind_some, Option.bind_some, if_pos rfl, if_pos rfl]
      unfold ieee_order.f ordI
      by_cases c1 : rankI x < rankI y
      · rw [if_pos c1, if_pos c1]; rfl
      · rw [if_neg c1, if_neg c1]
        by_cases c2 : rankI x > rankI y
        · rw [if_pos c2, if_pos c2]; rfl
        · rw [if_neg c2, if_neg c2]; rfl
theorem toNum_val (a0 : Int) (a1 : Int) (a2 : ByteArray) (h : ¬ a0 = 2) : value_ToNum.f a0 a1 a2 = some (numI (a0, a1, a2)) := by
  have hn : (if a0 = 1 ∨ a0 = 3 then a1 else 0) = numI (a0, a1, a2) := rfl
  unfold value_ToNum.f
  rw [if_neg h, hn]
theorem class_low (a0 : Int) (a1 : Int) (a2 : ByteArray) (h2 : ¬ classI (a0, a1, a2) = 2) (h1 : ¬ classI (a0, a1, a2) = 1) : ¬ a0 = 2 ∧ ¬ nanI (numI (a0, a1, a2)) = true := by
  unfold classI at h1 h2
  by_cases c : a0 = 2
  · rw [if_pos (show (a0, a1, a2).1 = 2 from c)] at h2
    exact absurd (Eq.refl (2 : Int)) h2
  · refine ⟨c, fun e => ?_⟩
    rw [if_neg (show ¬ (a0, a1, a2).1 = 2 from c), if_pos e] at h1
    exact absurd (Eq.refl (1 : Int)) h1
theorem order_ev (a b : Val) (ha : a.2.2.size ≤ 4611686018427387904) : Ev (fun k => relate_Order.f k a.1 a.2.1 a.2.2 b.1 b.2.1 b.2.2) (ordV a b) := by
  obtain ⟨a0, a1, a2⟩ := a
  obtain ⟨b0, b1, b2⟩ := b
  have ht := texts_ev a2 b2 ha
  unfold ordV
  have ra := classI_range (a0, a1, a2)
  have rb := classI_range (b0, b1, b2)
  have la := class_low a0 a1 a2
  have lb := class_low b0 b1 b2
  refine Ev.congr (f := fun k => (if classI (a0, a1, a2) < classI (b0, b1, b2) then (some (-1)) else (if classI (a0, a1, a2) > classI (b0, b1, b2) then (some 1) else (if classI (a0, a1, a2) = 2 then ((relate_texts.f k a2 b2).bind fun t207 => (some t207)) else (if classI (a0, a1, a2) = 1 then (some 0) else ((value_ToNum.f a0 a1 a2).bind fun t208 => ((value_ToNum.f b0 b1 b2).bind fun t209 => ((ieee_Compare.f t208 t209).bind fun bt210 => (some bt210.1))))))))) (fun k => ?_) ?_
  · unfold relate_Order.f
    rw [toVal_class, toVal_class, Option.bind_some, Option.bind_some]
  generalize classI (a0, a1, a2) = ca at *
  generalize classI (b0, b1, b2) = cb at *
  by_cases c1 : ca < cb
  · rw [if_pos c1]
    exact Ev.congr (f := fun _ => some (-1)) (fun k => by rw [if_pos c1]) (Ev.now _)
  · rw [if_neg c1]
    by_cases c2 : ca > cb
    · rw [if_pos c2]
      exact Ev.congr (f := fun _ => some 1) (fun k => by rw [if_neg c1, if_pos c2]) (Ev.now _)
    · rw [if_neg c2]
      by_cases c3 : ca = 2
      · rw [if_pos c3]
        exact Ev.congr (f := fun k => (relate_texts.f k a2 b2).bind fun t => some t) (fun k => by rw [if_neg c1, if_neg c2, if_pos c3]) (Ev.bind ht (Ev.now _))
      · rw [if_neg c3]
        by_cases c4 : ca = 1
        · have er : (if ca = 1 then (0 : Int) else ordI (rankI (numI (a0, a1, a2))) (rankI (numI (b0, b1, b2)))) = 0 := if_pos c4
          rw [er]
          exact Ev.congr (f := fun _ => some 0) (fun k => by rw [if_neg c1, if_neg c2, if_neg c3, if_pos c4]) (Ev.now _)
        · have er : (if ca = 1 then (0 : Int) else ordI (rankI (numI (a0, a1, a2))) (rankI (numI (b0, b1, b2)))) = ordI (rankI (numI (a0, a1, a2))) (rankI (numI (b0, b1, b2))) := if_neg c4
          rw [er]
          have d1 := la c3 c4
          have d2 := lb (by omega) (by omega)
          refine Ev.congr (f := fun _ => some (ordI (rankI (numI (a0, a1, a2))) (rankI (numI (b0, b1, b2))))) (fun k => ?_) (Ev.now _)
          rw [if_neg c1, if_neg c2, if_neg c3, if_neg c4, toNum_val a0 a1 a2 d1.1, toNum_val b0 b1 b2 d2.1, Option.bind_some, Option.bind_some, cmp_val, if_neg (fun h => h.elim d1.2 d2.2), Option.bind_some]
theorem ahead_ev (x y : Ent) (hx : Sm x) : Ev (fun k => relate_ahead.f k x.1 x.2.1 x.2.2.1 x.2.2.2 y.1 y.2.1 y.2.2.1 y.2.2.2) (ltE x y) := by
  have ho := order_ev (valE x) (valE y) hx
  refine Ev.bind ho ?_
  unfold ltE
  by_cases c1 : ordV (valE x) (valE y) < 0
  · refine Ev.congr (fun k => by rw [if_pos c1]) ?_
    rw [decide_eq_true (.inl c1)]
    exact Ev.now _
  · by_cases c2 : ordV (valE x) (valE y) = 0
    · refine Ev.congr (fun k => by rw [if_neg c1, if_pos c2]) ?_
      have : decide (ordV (valE x) (valE y) < 0 ∨ ordV (valE x) (valE y) = 0 ∧ x.2.2.2 < y.2.2.2) = decide (x.2.2.2 < y.2.2.2) := by
        rw [decide_eq_decide]
        constructor
        · rintro (h | h)
          · exact absurd h c1
          · exact h.2
        · exact fun h => .inr ⟨c2, h⟩
      rw [this]
      exact Ev.now _
    · refine Ev.congr (fun k => by rw [if_neg c1, if_neg c2]) ?_
      rw [decide_eq_false (by rintro (h | h); exact c1 h; exact c2 h.1)]
      exact Ev.now _
theorem less_ltE : Less ltE := fun x y u hx _ hG => by
  obtain ⟨k, hk⟩ := (ahead_ev x y hx).rounds
  exact (relate_ahead.calls k x.1 x.2.1 x.2.2.1 x.2.2.2 y.1 y.2.1 y.2.2.1 y.2.2.2 (ltE x y) u hk ⟨hG⟩)
theorem lt12 : ltE e1 e2 = true := by decide +kernel

def valS (x : S29) : Val := (x.f0, x.f1, x.f2)
def smallS (l : List S29) : Prop := l.length < 4398046511104 ∧ ∀ x ∈ l, x.f2.size ≤ 4611686018427387904
instance (l : List S29) : Decidable (smallS l) := inferInstanceAs (Decidable (_ ∧ _))
theorem GW.five {w : World} (h : GW w) : 5 ≤ w.heap.size := by
  obtain ⟨h1, _⟩ := h
  unfold Lib.TabIs World.var? at h1
  rw [named_pow10] at h1
  simp only [Option.bind_some] at h1
  rcases Nat.lt_or_ge 4 w.heap.size with h' | h'
  · omega
  · rw [Array.getElem?_eq_none h'] at h1; cases h1
def relate_Top.f (l0 : List S29) (a1 : Int) : Option (List Int) := if smallS l0 then some (topIds ltE (l0.map valS) a1) else none
theorem relate_Top.calls (A0 : Option Addr) (c0 : Nat) (l0 : List S29) (a1 : Int) (r : List Int) (w : World) (hr0 : Kd.C k29 w A0 l0.length l0) (hc0 : l0.length ≤ c0) (h : relate_Top.f l0 a1 = some r) (HG : Aside0 (GW w) := by exact phTextsx7_7) :
    Calls Tryz.prog 25 #[.slice A0 l0.length c0, .int .i64 a1] w fun e w' => ∃ v0_ : Value, e = .returned (v0_) ∧ Kd.R (Kd.int .i64) 3 w' w.heap.size (fun _ => True) v0_ r ∧ Below w.heap.size w w' := by
  unfold relate_Top.f at h
  split at h
  · rename_i hs
    cases h
    obtain ⟨hs1, hs2⟩ := hs
    have hg : ∀ i, i < l0.length → Heap.g (l0.map valS) i = valS (rd_T29 l0 (i : Int)) := fun i hi => by
      unfold Heap.g rd_T29
      rw [Int.toNat_natCast, List.getD_eq_getElem?_getD, List.getD_eq_getElem?_getD, List.getElem?_map, List.getElem?_eq_getElem hi]
      rfl
    have hv : VR w A0 (l0.map valS) := fun i hi => by
      rw [List.length_map] at hi
      obtain ⟨ad, h1, h2, h3, h4⟩ := at_T29 hr0 (i : Int) (by omega) (by omega)
      rw [Int.toNat_natCast] at h2 h3 h4
      rw [hg i hi]
      exact ⟨ad, h1, h2, h3, h4⟩
    have hsm : ∀ i, i < (l0.map valS).length → (Heap.g (l0.map valS) i).2.2.size ≤ 4611686018427387904 := fun i hi => by
      rw [List.length_map] at hi
      rw [hg i hi]
      unfold rd_T29
      rw [Int.toNat_natCast, List.getD_eq_getElem?_getD, List.getElem?_eq_getElem hi]
      exact hs2 _ (List.getElem_mem hi)
    have hw := Top_walk ltE less_ltE A0 c0 (l0.map valS) a1 w hv hsm (by rw [List.length_map]; exact hs1) (GW.five HG.out) HG.out
    rw [List.length_map] at hw
    refine hw.mono ?_
    rintro e w' ⟨v, rfl, ho, hb⟩
    exact ⟨v, rfl, Kd.R_of_own (h1 := fun _ => rfl) (ok := fun _ => True) ho (fun _ _ => trivial), hb⟩
  · cases h

/-! ### relate_Sort: function 23 -/
def relate_Sort.f (l0 : List (S29)) : Option (List Int) := (relate_Top.f l0 (l0.length : Int)).bind fun t215 => (some t215)
set_option maxHeartbeats 8000000 in
set_option maxRecDepth 100000 in
theorem relate_Sort.calls (A0 : Option Addr) (c0 : Nat) (l0 : List (S29)) (r : List Int) (w : World) (hr0 : Kd.C k29 w A0 l0.length l0) (hc0 : l0.length ≤ c0) (h : relate_Sort.f l0 = some r) (HG : Aside0 (GW w) := by exact phTextsx7_7) :
    Calls Tryz.prog 23 #[.slice A0 l0.length c0] w fun e w' => ∃ v0_ : Value, e = .returned (v0_) ∧ Kd.R (Kd.int .i64) 3 w' w.heap.size (fun _ => True) v0_ r ∧ Below w.heap.size w w' := by
  have HR0 := Aside0.mk hr0
  have HC0 := Aside0.mk hc0
  clear hr0 hc0
  have HB := Aside0.mk (Below.refl w.heap.size w)
  have H : ((relate_Top.f l0 (l0.length : Int)).bind fun t215 => (some t215)) = some r := h
  clear h
  replace H := Option.bind_eq_some_iff.mp H
  obtain ⟨t215, A20, H⟩ := H
  try dsimp only at H
  have A2 := Aside0.mk A20
  clear A20
  obtain rfl := Option.some.inj H
  go_enter Tryz.func23, Tryz.ntmps23
  go_wp2_with (first | ((with_reducible refine gate_callee (f := 25) rfl ?_); refine goesL_ (some 6) rfl rfl Tryz.func25 (by kernel_rfl) rfl #[.slice A0 l0.length c0, .int .i64 (l0.length : Int)] rfl (by exact phTextsx7_5) ?_; (with_reducible refine (relate_Top.calls _ _ l0 (l0.length : Int) t215 _ ?side1 ?side2 A2.out).mono ?_); (case side1 => repeat (first | exact HR0.out | (with_reducible refine Kd.C_alloc ?_ _) | (with_reducible refine Kd.C_drewN ?_ _) | (with_reducible refine Kd.C_drew ?_))); (case side2 => exact HC0.out); rintro e w3 ⟨v216, rfl, ho0, hb⟩; refine ⟨_, rfl, ?_⟩; have n0_ := Aside0.mk (Kd.R_lower ho0 (below_size (by exact phTextsx7_6))); have n1_ := Aside0.mk (below_step (by exact phTextsx7_6) hb); clear HB; have HO217 := n0_; have HB := n1_; clear n0_ n1_; (try clear hb); (try clear hb2); (try clear hk); (try clear hi); (try clear ho0)))
  go_ret
  exact ⟨_, by exact phTextsx7_3, by (with_reducible repeat (first | apply Kd.R_alloc | apply Kd.R_drewN | apply Kd.R_drew)); exact HO217.out, by exact phTextsx7_6⟩

/-! ### relate_Holds: function 50 -/
def relate_Holds.j0 : Nat → Int → ByteArray → Bool → Int → Int → ByteArray → Int → Int → ByteArray → Option (Bool × Int)
  | 0, _, _, _, _, _, _, _, _, _ => none
  | k + 1, x0, x3, x17, x219000, x219001, x219002, x220000, x220001, x220002 => if x17 = true then (some (false, 180)) else ((relate_Compare.f k x219000 x219001 x219002 x220000 x220001 x220002 x3).bind fun bt220 => (if bt220.2 = 0 then (if x0 = 1 then (some ((bt220.1 == (-1)), 0)) else (if x0 = 2 then (if bt220.1 = (-1) then (some (true, 0)) else (some ((bt220.1 == 0), 0))) else (if x0 = 3 then (some ((bt220.1 == 0), 0)) else (if x0 = 4 then (some ((bt220.1 != 0), 0)) else (if x0 = 5 then (some ((bt220.1 == 1), 0)) else (if bt220.1 = 0 then (some (true, 0)) else (some ((bt220.1 == 1), 0)))))))) else (some (false, bt220.2))))
def relate_Holds.f (k : Nat) (a0 : Int) (a1_0 : Int) (a1_1 : Int) (a1_2 : ByteArray) (a2_0 : Int) (a2_1 : Int) (a2_2 : ByteArray) (a3 : ByteArray) : Option (Bool × Int) := if a0 < 1 then (relate_Holds.j0 k a0 a3 true a1_0 a1_1 a1_2 a2_0 a2_1 a2_2) else (relate_Holds.j0 k a0 a3 (decide (a0 > 6)) a1_0 a1_1 a1_2 a2_0 a2_1 a2_2)
theorem relate_Holds.mono_l : ∀ k, (∀ y0 y1 y2 y3 y4 y5 y6 y7 y8, LeO (relate_Holds.j0 k y0 y1 y2 y3 y4 y5 y6 y7 y8) (relate_Holds.j0 (k + 1) y0 y1 y2 y3 y4 y5 y6 y7 y8))
  | 0 => fun _ _ _ _ _ _ _ _ _ r h => by simp [relate_Holds.j0] at h
  | k + 1 => by
    have ih0 := relate_Holds.mono_l k
    · intro y0 y1 y2 y3 y4 y5 y6 y7 y8
      unfold relate_Holds.j0
      repeat' first
      | (with_reducible exact ih0 _ _ _ _ _ _ _ _ _)
      | (with_reducible exact relate_Compare.mono _ _ _ _ _ _ _ _)
      | (with_reducible exact LeO.refl _)
      | (with_reducible exact LeO.none _)
      | (with_reducible refine LeO.ite ?_ ?_)
      | (with_reducible refine LeO.bind ?_ (fun _ => ?_))
      | exact ih0 _ _ _ _ _ _ _ _ _
      | exact relate_Compare.mono _ _ _ _ _ _ _ _
      | exact LeO.none _
      | refine LeO.ite ?_ ?_
      | refine LeO.bind ?_ (fun _ => ?_)
theorem relate_Holds.mono : ∀ a0 a1 a2 a3 a4 a5 a6 a7 k, LeO (relate_Holds.f k a0 a1 a2 a3 a4 a5 a6 a7) (relate_Holds.f (k + 1) a0 a1 a2 a3 a4 a5 a6 a7) := by
  intro a0 a1 a2 a3 a4 a5 a6 a7 k
  have ih0 := relate_Holds.mono_l k
  unfold relate_Holds.f
  repeat' first
      | (with_reducible exact ih0 _ _ _ _ _ _ _ _ _)
      | (with_reducible exact relate_Compare.mono _ _ _ _ _ _ _ _)
      | (with_reducible exact LeO.refl _)
      | (with_reducible exact LeO.none _)
      | (with_reducible refine LeO.ite ?_ ?_)
      | (with_reducible refine LeO.bind ?_ (fun _ => ?_))
      | exact ih0 _ _ _ _ _ _ _ _ _
      | exact relate_Compare.mono _ _ _ _ _ _ _ _
      | exact LeO.none _
      | refine LeO.ite ?_ ?_
      | refine LeO.bind ?_ (fun _ => ?_)
set_option maxHeartbeats 8000000 in
set_option maxRecDepth 100000 in
theorem relate_Holds.calls (k : Nat) (a0 : Int) (a1_0 : Int) (a1_1 : Int) (a1_2 : ByteArray) (a2_0 : Int) (a2_1 : Int) (a2_2 : ByteArray) (a3 : ByteArray) (r1 : Bool) (r2 : Int) (w : World) (h : relate_Holds.f k a0 a1_0 a1_1 a1_2 a2_0 a2_1 a2_2 a3 = some (r1, r2)) (HG : Aside0 (GW w) := by exact phTextsx7_7) :
    Calls Tryz.prog 50 #[.int .i64 a0, .agg #[.int .i64 a1_0, .int .u64 a1_1, .string a1_2], .agg #[.int .i64 a2_0, .int .u64 a2_1, .string a2_2], .string a3] w fun e w' => e = .returned (.tuple #[.bool r1, .int .i64 r2]) ∧ Below w.heap.size w w' := by
  have hu29 := Tryz.underlying29
  have HB := Aside0.mk (Below.refl w.heap.size w)
  have H : (if a0 < 1 then (relate_Holds.j0 k a0 a3 true a1_0 a1_1 a1_2 a2_0 a2_1 a2_2) else (relate_Holds.j0 k a0 a3 (decide (a0 > 6)) a1_0 a1_1 a1_2 a2_0 a2_1 a2_2)) = some (r1, r2) := h
  clear h
  have HC5 := Aside0.mk H
  clear H
  go_enter Tryz.func50, Tryz.ntmps50
  go_upto_region 1 with (first | ((with_reducible refine gate_dst (N := 5) rfl ?_); refine box_event ?hg (N := 5) ?hd (cs := #[.int .i64 a1_0, .int .u64 a1_1, .string a1_2]) (t := 29) ?hr ?_; (case hd => rfl); (case hg => rfl); (case hr => first | (go_simp; done) | (go_simp; rfl)); intro gb218 hg w6 hbox hb; have n0_ := Aside0.mk (below_step (by exact phTextsx7_6) hb); have n1_ := Aside0.mk (hbox); have n2_ := Aside0.mk ((by rw [hg]; exact (below_size (by exact phTextsx7_6)) : w.heap.size ≤ gb218)); have n3_ := Aside0.mk ((by rw [hg]; exact (below_size (by exact phTextsx7_6)) : w.heap.size ≤ gb218)); clear HB; have HB := n0_; have BK218 := n1_; have GW218 := n2_; have GE218 := n3_; clear n0_ n1_ n2_ n3_; clear hb hbox hg) | ((with_reducible refine gate_dst (N := 6) rfl ?_); refine box_event ?hg (N := 6) ?hd (cs := #[.int .i64 a2_0, .int .u64 a2_1, .string a2_2]) (t := 29) ?hr ?_; (case hd => rfl); (case hg => rfl); (case hr => first | (go_simp; done) | (go_simp; rfl)); intro gb219 hg w7 hbox hb; have n0_ := Aside0.mk (blk_below (g := gb218) (o := .cells #[.int .i64 a1_0, .int .u64 a1_1, .string a1_2] 29 (0, 0)) (by exact phTextsx7_2) hb); have n1_ := Aside0.mk (below_step (by exact phTextsx7_9) hb); have n2_ := Aside0.mk (hbox); have n3_ := Aside0.mk ((by rw [hg]; exact (below_size (by exact phTextsx7_9)) : w.heap.size ≤ gb219)); have n4_ := Aside0.mk ((by rw [hg]; exact (below_size (by exact phTextsx7_9)) : w.heap.size ≤ gb219)); have n5_ := Aside0.mk ((by rw [hg]; exact Nat.ne_of_lt (blk_lt (g := gb218) (o := .cells #[.int .i64 a1_0, .int .u64 a1_1, .string a1_2] 29 (0, 0)) (by exact phTextsx7_2)) : gb218 ≠ gb219)); have n6_ := Aside0.mk ((by rw [hg]; exact Nat.ne_of_gt (blk_lt (g := gb218) (o := .cells #[.int .i64 a1_0, .int .u64 a1_1, .string a1_2] 29 (0, 0)) (by exact phTextsx7_2)) : gb219 ≠ gb218)); clear BK218; clear HB; have BK218 := n0_; have HB := n1_; have BK219 := n2_; have GW219 := n3_; have GE219 := n4_; have NB218_219 := n5_; have NB219_218 := n6_; clear n0_ n1_ n2_ n3_ n4_ n5_ n6_; clear hb hbox hg))
  (try simp only [Act.put, List.setIfInBounds_toArray, List.set_cons_zero, List.set_cons_succ])
  go_cut [17] (fun v17 wc => ∃ (kq : Nat) (x17_4 : Bool), v17 = .bool x17_4 ∧ Aside0 (relate_Holds.j0 kq a0 a3 x17_4 a1_0 a1_1 a1_2 a2_0 a2_1 a2_2 = some (r1, r2)) ∧ Aside0 (kq ≤ k) ∧ Aside0 (wc.heap[gb218]? = some (.cells #[.int .i64 a1_0, .int .u64 a1_1, .string a1_2] 29 (0, 0))) ∧ Aside0 (wc.heap[gb219]? = some (.cells #[.int .i64 a2_0, .int .u64 a2_1, .string a2_2] 29 (0, 0))) ∧ Aside0 (Below w.heap.size w wc))
  case first =>
    have H := HC5.out
    clear HC5
    by_cases c8 : a0 < 1
    · rw [if_pos c8] at H
      have c8b0 : decide (a0 < 1) = true := decide_eq_true c8
      clear c8
      (first | rw [c8b0] | (simp only [i64_w, i32_w]; rw [c8b0]) | skip)
      have H' := Aside0.mk H
      clear H
      go_wp2
      go_meet
      case rel => exact ⟨_, (true), (by first | rfl | (simp; done) | (simp [*]; done)), H', ⟨by first | omega | exact Nat.le_refl _⟩, ⟨by exact phTextsx7_2⟩, ⟨by exact phTextsx7_4⟩, ⟨by exact phTextsx7_1⟩⟩
    · rw [if_neg c8] at H
      have c8b0 : decide (a0 < 1) = false := decide_eq_false c8
      clear c8
      (first | rw [c8b0] | (simp only [i64_w, i32_w]; rw [c8b0]) | skip)
      have H' := Aside0.mk H
      clear H
      go_wp2
      go_meet
      case rel => exact ⟨_, (decide (a0 > 6)), (by first | rfl | (simp; done) | (simp [*]; done)), H', ⟨by first | omega | exact Nat.le_refl _⟩, ⟨by exact phTextsx7_2⟩, ⟨by exact phTextsx7_4⟩, ⟨by exact phTextsx7_1⟩⟩
  case rest =>
    clear HC5
    try clear p2
    try clear c5
    try clear c8
    try clear c8b0
    obtain ⟨kq, x17_4, rfl, HA, HJ4, BK218, BK219, HB⟩ := hcut
    cases kq with
    | zero => exact absurd HA.out (by simp [relate_Holds.j0])
    | succ kj4 =>
      have H := HA.out
      clear HA
      simp only [relate_Holds.j0] at H
      by_cases c9 : x17_4 = true
      · subst c9
        have H1 : (some (false, 180)) = some (r1, r2) := by rw [if_pos rfl] at H; exact H
        clear H
        have H := H1
        clear H1
        simp only [Option.some.injEq, Prod.mk.injEq] at H
        obtain ⟨rfl, rfl⟩ := H
        go_wp2
        go_ret2
        exact ⟨by exact phTextsx7_3, by exact phTextsx7_1⟩
      · replace c9 := Bool.eq_false_iff.mpr c9
        subst c9
        have H1 : ((relate_Compare.f kj4 a1_0 a1_1 a1_2 a2_0 a2_1 a2_2 a3).bind fun bt220 => (if bt220.2 = 0 then (if a0 = 1 then (some ((bt220.1 == (-1)), 0)) else (if a0 = 2 then (if bt220.1 = (-1) then (some (true, 0)) else (some ((bt220.1 == 0), 0))) else (if a0 = 3 then (some ((bt220.1 == 0), 0)) else (if a0 = 4 then (some ((bt220.1 != 0), 0)) else (if a0 = 5 then (some ((bt220.1 == 1), 0)) else (if bt220.1 = 0 then (some (true, 0)) else (some ((bt220.1 == 1), 0)))))))) else (some (false, bt220.2)))) = some (r1, r2) := by rw [if_neg (show ¬ (false = true) by decide)] at H; exact H
        clear H
        have H := H1
        clear H1
        replace H := Option.bind_eq_some_iff.mp H
        obtain ⟨⟨t220, t221⟩, A100, H⟩ := H
        try dsimp only at H
        have A10 := Aside0.mk A100
        clear A100
        by_cases c11 : t221 = 0
        · rw [if_pos c11] at H
          have c11b0 : (t221 == 0) = true := beq_iff_eq.mpr c11
          have c11b1 : (t221 != 0) = false := bne_eq_false_iff_eq.mpr c11
          clear c11
          by_cases c12 : a0 = 1
          · rw [if_pos c12] at H
            have c12b0 : (a0 == 1) = true := beq_iff_eq.mpr c12
            have c12b1 : (a0 != 1) = false := bne_eq_false_iff_eq.mpr c12
            clear c12
            simp only [Option.some.injEq, Prod.mk.injEq] at H
            obtain ⟨rfl, rfl⟩ := H
            have hnb13 := NB218_219.out
            have hnc13 := NB219_218.out
            have hcz14_0 : wc.cell? ⟨gb218, 0, none⟩ = some (.int .i64 a1_0) := (blk_cell BK218.out 0).trans rfl
            have hcz14_1 : wc.cell? ⟨gb218, 1, none⟩ = some (.int .u64 a1_1) := (blk_cell BK218.out 1).trans rfl
            have hcz14_2 : wc.cell? ⟨gb218, 2, none⟩ = some (.string a1_2) := (blk_cell BK218.out 2).trans rfl
            have hfz14_0 := blk_frozen BK218.out 0
            have hfz14_1 := blk_frozen BK218.out 1
            have hfz14_2 := blk_frozen BK218.out 2
            have hcz15_0 : wc.cell? ⟨gb219, 0, none⟩ = some (.int .i64 a2_0) := (blk_cell BK219.out 0).trans rfl
            have hcz15_1 : wc.cell? ⟨gb219, 1, none⟩ = some (.int .u64 a2_1) := (blk_cell BK219.out 1).trans rfl
            have hcz15_2 : wc.cell? ⟨gb219, 2, none⟩ = some (.string a2_2) := (blk_cell BK219.out 2).trans rfl
            have hfz15_0 := blk_frozen BK219.out 0
            have hfz15_1 := blk_frozen BK219.out 1
            have hfz15_2 := blk_frozen BK219.out 2
            go_wp2_with (first | ((with_reducible refine gate_callee (f := 17) rfl ?_); refine goesL_ (some 22) rfl rfl Tryz.func17 (by kernel_rfl) rfl #[.agg #[.int .i64 a1_0, .int .u64 a1_1, .string a1_2], .agg #[.int .i64 a2_0, .int .u64 a2_1, .string a2_2], .string a3] rfl (by exact phTextsx7_5) ?_; (with_reducible refine (relate_Compare.calls kj4 a1_0 a1_1 a1_2 a2_0 a2_1 a2_2 a3 t220 t221 _ A10.out).mono ?_); rintro e w16 ⟨rfl, hb⟩; refine ⟨_, rfl, ?_⟩; have n0_ := Aside0.mk (blk_below (g := gb218) (o := .cells #[.int .i64 a1_0, .int .u64 a1_1, .string a1_2] 29 (0, 0)) (by exact phTextsx7_2) hb); have n1_ := Aside0.mk (blk_below (g := gb219) (o := .cells #[.int .i64 a2_0, .int .u64 a2_1, .string a2_2] 29 (0, 0)) (by exact phTextsx7_4) hb); have n2_ := Aside0.mk (below_step (by exact phTextsx7_1) hb); clear BK218; clear BK219; clear HB; have BK218 := n0_; have BK219 := n1_; have HB := n2_; clear n0_ n1_ n2_; (try clear hb); (try clear hb2); (try clear hk); (try clear hi)))
            go_ret2
            exact ⟨by exact phTextsx7_3, by exact phTextsx7_1⟩
          · rw [if_neg c12] at H
            have c12b0 : (a0 == 1) = false := beq_eq_false_iff_ne.mpr c12
            have c12b1 : (a0 != 1) = true := bne_iff_ne.mpr c12
            by_cases c17 : a0 = 2
            · rw [if_pos c17] at H
              have c17b0 : (a0 == 2) = true := beq_iff_eq.mpr c17
              have c17b1 : (a0 != 2) = false := bne_eq_false_iff_eq.mpr c17
              clear c17
              by_cases c18 : t220 = (-1)
              · rw [if_pos c18] at H
                have c18b0 : (t220 == (-1)) = true := beq_iff_eq.mpr c18
                have c18b1 : (t220 != (-1)) = false := bne_eq_false_iff_eq.mpr c18
                clear c18
                simp only [Option.some.injEq, Prod.mk.injEq] at H
                obtain ⟨rfl, rfl⟩ := H
                have hnb19 := NB218_219.out
                have hnc19 := NB219_218.out
                have hcz20_0 : wc.cell? ⟨gb218, 0, none⟩ = some (.int .i64 a1_0) := (blk_cell BK218.out 0).trans rfl
                have hcz20_1 : wc.cell? ⟨gb218, 1, none⟩ = some (.int .u64 a1_1) := (blk_cell BK218.out 1).trans rfl
                have hcz20_2 : wc.cell? ⟨gb218, 2, none⟩ = some (.string a1_2) := (blk_cell BK218.out 2).trans rfl
                have hfz20_0 := blk_frozen BK218.out 0
                have hfz20_1 := blk_frozen BK218.out 1
                have hfz20_2 := blk_frozen BK218.out 2
                have hcz21_0 : wc.cell? ⟨gb219, 0, none⟩ = some (.int .i64 a2_0) := (blk_cell BK219.out 0).trans rfl
                have hcz21_1 : wc.cell? ⟨gb219, 1, none⟩ = some (.int .u64 a2_1) := (blk_cell BK219.out 1).trans rfl
                have hcz21_2 : wc.cell? ⟨gb219, 2, none⟩ = some (.string a2_2) := (blk_cell BK219.out 2).trans rfl
                have hfz21_0 := blk_frozen BK219.out 0
                have hfz21_1 := blk_frozen BK219.out 1
                have hfz21_2 := blk_frozen BK219.out 2
                go_wp2_with (first | ((with_reducible refine gate_callee (f := 17) rfl ?_); refine goesL_ (some 22) rfl rfl Tryz.func17 (by kernel_rfl) rfl #[.agg #[.int .i64 a1_0, .int .u64 a1_1, .string a1_2], .agg #[.int .i64 a2_0, .int .u64 a2_1, .string a2_2], .string a3] rfl (by exact phTextsx7_5) ?_; (with_reducible refine (relate_Compare.calls kj4 a1_0 a1_1 a1_2 a2_0 a2_1 a2_2 a3 t220 t221 _ A10.out).mono ?_); rintro e w22 ⟨rfl, hb⟩; refine ⟨_, rfl, ?_⟩; have n0_ := Aside0.mk (blk_below (g := gb218) (o := .cells #[.int .i64 a1_0, .int .u64 a1_1, .string a1_2] 29 (0, 0)) (by exact phTextsx7_2) hb); have n1_ := Aside0.mk (blk_below (g := gb219) (o := .cells #[.int .i64 a2_0, .int .u64 a2_1, .string a2_2] 29 (0, 0)) (by exact phTextsx7_4) hb); have n2_ := Aside0.mk (below_step (by exact phTextsx7_1) hb); clear BK218; clear BK219; clear HB; have BK218 := n0_; have BK219 := n1_; have HB := n2_; clear n0_ n1_ n2_; (try clear hb); (try clear hb2); (try clear hk); (try clear hi)))
                go_ret2
                exact ⟨by exact phTextsx7_3, by exact phTextsx7_1⟩
              · rw [if_neg c18] at H
                have c18b0 : (t220 == (-1)) = false := beq_eq_false_iff_ne.mpr c18
                have c18b1 : (t220 != (-1)) = true := bne_iff_ne.mpr c18
                simp only [Option.some.injEq, Prod.mk.injEq] at H
                obtain ⟨rfl, rfl⟩ := H
                have hnb23 := NB218_219.out
                have hnc23 := NB219_218.out
                have hcz24_0 : wc.cell? ⟨gb218, 0, none⟩ = some (.int .i64 a1_0) := (blk_cell BK218.out 0).trans rfl
                have hcz24_1 : wc.cell? ⟨gb218, 1, none⟩ = some (.int .u64 a1_1) := (blk_cell BK218.out 1).trans rfl
                have hcz24_2 : wc.cell? ⟨gb218, 2, none⟩ = some (.string a1_2) := (blk_cell BK218.out 2).trans rfl
                have hfz24_0 := blk_frozen BK218.out 0
                have hfz24_1 := blk_frozen BK218.out 1
                have hfz24_2 := blk_frozen BK218.out 2
                have hcz25_0 : wc.cell? ⟨gb219, 0, none⟩ = some (.int .i64 a2_0) := (blk_cell BK219.out 0).trans rfl
                have hcz25_1 : wc.cell? ⟨gb219, 1, none⟩ = some (.int .u64 a2_1) := (blk_cell BK219.out 1).trans rfl
                have hcz25_2 : wc.cell? ⟨gb219, 2, none⟩ = some (.string a2_2) := (blk_cell BK219.out 2).trans rfl
                have hfz25_0 := blk_frozen BK219.out 0
                have hfz25_1 := blk_frozen BK219.out 1
                have hfz25_2 := blk_frozen BK219.out 2
                go_wp2_with (first | ((with_reducible refine gate_callee (f := 17) rfl ?_); refine goesL_ (some 22) rfl rfl Tryz.func17 (by kernel_rfl) rfl #[.agg #[.int .i64 a1_0, .int .u64 a1_1, .string a1_2], .agg #[.int .i64 a2_0, .int .u64 a2_1, .string a2_2], .string a3] rfl (by exact phTextsx7_5) ?_; (with_reducible refine (relate_Compare.calls kj4 a1_0 a1_1 a1_2 a2_0 a2_1 a2_2 a3 t220 t221 _ A10.out).mono ?_); rintro e w26 ⟨rfl, hb⟩; refine ⟨_, rfl, ?_⟩; have n0_ := Aside0.mk (blk_below (g := gb218) (o := .cells #[.int .i64 a1_0, .int .u64 a1_1, .string a1_2] 29 (0, 0)) (by exact phTextsx7_2) hb); have n1_ := Aside0.mk (blk_below (g := gb219) (o := .cells #[.int .i64 a2_0, .int .u64 a2_1, .string a2_2] 29 (0, 0)) (by exact phTextsx7_4) hb); have n2_ := Aside0.mk (below_step (by exact phTextsx7_1) hb); clear BK218; clear BK219; clear HB; have BK218 := n0_; have BK219 := n1_; have HB := n2_; clear n0_ n1_ n2_; (try clear hb); (try clear hb2); (try clear hk); (try clear hi)))
                go_ret2
                exact ⟨by exact phTextsx7_3, by exact phTextsx7_1⟩
            · rw [if_neg c17] at H
              have c17b0 : (a0 == 2) = false := beq_eq_false_iff_ne.mpr c17
              have c17b1 : (a0 != 2) = true := bne_iff_ne.mpr c17
              by_cases c27 : a0 = 3
              · rw [if_pos c27] at H
                have c27b0 : (a0 == 3) = true := beq_iff_eq.mpr c27
                have c27b1 : (a0 != 3) = false := bne_eq_false_iff_eq.mpr c27
                clear c27
                simp only [Option.some.injEq, Prod.mk.injEq] at H
                obtain ⟨rfl, rfl⟩ := H
                have hnb28 := NB218_219.out
                have hnc28 := NB219_218.out
                have hcz29_0 : wc.cell? ⟨gb218, 0, none⟩ = some (.int .i64 a1_0) := (blk_cell BK218.out 0).trans rfl
                have hcz29_1 : wc.cell? ⟨gb218, 1, none⟩ = some (.int .u64 a1_1) := (blk_cell BK218.out 1).trans rfl
                have hcz29_2 : wc.cell? ⟨gb218, 2, none⟩ = some (.string a1_2) := (blk_cell BK218.out 2).trans rfl
                have hfz29_0 := blk_frozen BK218.out 0
                have hfz29_1 := blk_frozen BK218.out 1
                have hfz29_2 := blk_frozen BK218.out 2
                have hcz30_0 : wc.cell? ⟨gb219, 0, none⟩ = some (.int .i64 a2_0) := (blk_cell BK219.out 0).trans rfl
                have hcz30_1 : wc.cell? ⟨gb219, 1, none⟩ = some (.int .u64 a2_1) := (blk_cell BK219.out 1).trans rfl
                have hcz30_2 : wc.cell? ⟨gb219, 2, none⟩ = some (.string a2_2) := (blk_cell BK219.out 2).trans rfl
                have hfz30_0 := blk_frozen BK219.out 0
                have hfz30_1 := blk_frozen BK219.out 1
                have hfz30_2 := blk_frozen BK219.out 2
                go_wp2_with (first | ((with_reducible refine gate_callee (f := 17) rfl ?_); refine goesL_ (some 22) rfl rfl Tryz.func17 (by kernel_rfl) rfl #[.agg #[.int .i64 a1_0, .int .u64 a1_1, .string a1_2], .agg #[.int .i64 a2_0, .int .u64 a2_1, .string a2_2], .string a3] rfl (by exact phTextsx7_5) ?_; (with_reducible refine (relate_Compare.calls kj4 a1_0 a1_1 a1_2 a2_0 a2_1 a2_2 a3 t220 t221 _ A10.out).mono ?_); rintro e w31 ⟨rfl, hb⟩; refine ⟨_, rfl, ?_⟩; have n0_ := Aside0.mk (blk_below (g := gb218) (o := .cells #[.int .i64 a1_0, .int .u64 a1_1, .string a1_2] 29 (0, 0)) (by exact phTextsx7_2) hb); have n1_ := Aside0.mk (blk_below (g := gb219) (o := .cells #[.int .i64 a2_0, .int .u64 a2_1, .string a2_2] 29 (0, 0)) (by exact phTextsx7_4) hb); have n2_ := Aside0.mk (below_step (by exact phTextsx7_1) hb); clear BK218; clear BK219; clear HB; have BK218 := n0_; have BK219 := n1_; have HB := n2_; clear n0_ n1_ n2_; (try clear hb); (try clear hb2); (try clear hk); (try clear hi)))
                go_ret2
                exact ⟨by exact phTextsx7_3, by exact phTextsx7_1⟩
              · rw [if_neg c27] at H
                have c27b0 : (a0 == 3) = false := beq_eq_false_iff_ne.mpr c27
                have c27b1 : (a0 != 3) = true := bne_iff_ne.mpr c27
                by_cases c32 : a0 = 4
                · rw [if_pos c32] at H
                  have c32b0 : (a0 == 4) = true := beq_iff_eq.mpr c32
                  have c32b1 : (a0 != 4) = false := bne_eq_false_iff_eq.mpr c32
                  clear c32
                  simp only [Option.some.injEq, Prod.mk.injEq] at H
                  obtain ⟨rfl, rfl⟩ := H
                  have hnb33 := NB218_219.out
                  have hnc33 := NB219_218.out
                  have hcz34_0 : wc.cell? ⟨gb218, 0, none⟩ = some (.int .i64 a1_0) := (blk_cell BK218.out 0).trans rfl
                  have hcz34_1 : wc.cell? ⟨gb218, 1, none⟩ = some (.int .u64 a1_1) := (blk_cell BK218.out 1).trans rfl
                  have hcz34_2 : wc.cell? ⟨gb218, 2, none⟩ = some (.string a1_2) := (blk_cell BK218.out 2).trans rfl
                  have hfz34_0 := blk_frozen BK218.out 0
                  have hfz34_1 := blk_frozen BK218.out 1
                  have hfz34_2 := blk_frozen BK218.out 2
                  have hcz35_0 : wc.cell? ⟨gb219, 0, none⟩ = some (.int .i64 a2_0) := (blk_cell BK219.out 0).trans rfl
                  have hcz35_1 : wc.cell? ⟨gb219, 1, none⟩ = some (.int .u64 a2_1) := (blk_cell BK219.out 1).trans rfl
                  have hcz35_2 : wc.cell? ⟨gb219, 2, none⟩ = some (.string a2_2) := (blk_cell BK219.out 2).trans rfl
                  have hfz35_0 := blk_frozen BK219.out 0
                  have hfz35_1 := blk_frozen BK219.out 1
                  have hfz35_2 := blk_frozen BK219.out 2
                  go_wp2_with (first | ((with_reducible refine gate_callee (f := 17) rfl ?_); refine goesL_ (some 22) rfl rfl Tryz.func17 (by kernel_rfl) rfl #[.agg #[.int .i64 a1_0, .int .u64 a1_1, .string a1_2], .agg #[.int .i64 a2_0, .int .u64 a2_1, .string a2_2], .string a3] rfl (by exact phTextsx7_5) ?_; (with_reducible refine (relate_Compare.calls kj4 a1_0 a1_1 a1_2 a2_0 a2_1 a2_2 a3 t220 t221 _ A10.out).mono ?_); rintro e w36 ⟨rfl, hb⟩; refine ⟨_, rfl, ?_⟩; have n0_ := Aside0.mk (blk_below (g := gb218) (o := .cells #[.int .i64 a1_0, .int .u64 a1_1, .string a1_2] 29 (0, 0)) (by exact phTextsx7_2) hb); have n1_ := Aside0.mk (blk_below (g := gb219) (o := .cells #[.int .i64 a2_0, .int .u64 a2_1, .string a2_2] 29 (0, 0)) (by exact phTextsx7_4) hb); have n2_ := Aside0.mk (below_step (by exact phTextsx7_1) hb); clear BK218; clear BK219; clear HB; have BK218 := n0_; have BK219 := n1_; have HB := n2_; clear n0_ n1_ n2_; (try clear hb); (try clear hb2); (try clear hk); (try clear hi)))
                  go_ret2
                  exact ⟨by exact phTextsx7_3, by exact phTextsx7_1⟩
                · rw [if_neg c32] at H
                  have c32b0 : (a0 == 4) = false := beq_eq_false_iff_ne.mpr c32
                  have c32b1 : (a0 != 4) = true := bne_iff_ne.mpr c32
                  by_cases c37 : a0 = 5
                  · rw [if_pos c37] at H
                    have c37b0 : (a0 == 5) = true := beq_iff_eq.mpr c37
                    have c37b1 : (a0 != 5) = false := bne_eq_false_iff_eq.mpr c37
                    clear c37
                    simp only [Option.some.injEq, Prod.mk.injEq] at H
                    obtain ⟨rfl, rfl⟩ := H
                    have hnb38 := NB218_219.out
                    have hnc38 := NB219_218.out
                    have hcz39_0 : wc.cell? ⟨gb218, 0, none⟩ = some (.int .i64 a1_0) := (blk_cell BK218.out 0).trans rfl
                    have hcz39_1 : wc.cell? ⟨gb218, 1, none⟩ = some (.int .u64 a1_1) := (blk_cell BK218.out 1).trans rfl
                    have hcz39_2 : wc.cell? ⟨gb218, 2, none⟩ = some (.string a1_2) := (blk_cell BK218.out 2).trans rfl
                    have hfz39_0 := blk_frozen BK218.out 0
                    have hfz39_1 := blk_frozen BK218.out 1
                    have hfz39_2 := blk_frozen BK218.out 2
                    have hcz40_0 : wc.cell? ⟨gb219, 0, none⟩ = some (.int .i64 a2_0) := (blk_cell BK219.out 0).trans rfl
                    have hcz40_1 : wc.cell? ⟨gb219, 1, none⟩ = some (.int .u64 a2_1) := (blk_cell BK219.out 1).trans rfl
                    have hcz40_2 : wc.cell? ⟨gb219, 2, none⟩ = some (.string a2_2) := (blk_cell BK219.out 2).trans rfl
                    have hfz40_0 := blk_frozen BK219.out 0
                    have hfz40_1 := blk_frozen BK219.out 1
                    have hfz40_2 := blk_frozen BK219.out 2
                    go_wp2_with (first | ((with_reducible refine gate_callee (f := 17) rfl ?_); refine goesL_ (some 22) rfl rfl Tryz.func17 (by kernel_rfl) rfl #[.agg #[.int .i64 a1_0, .int .u64 a1_1, .string a1_2], .agg #[.int .i64 a2_0, .int .u64 a2_1, .string a2_2], .string a3] rfl (by exact phTextsx7_5) ?_; (with_reducible refine (relate_Compare.calls kj4 a1_0 a1_1 a1_2 a2_0 a2_1 a2_2 a3 t220 t221 _ A10.out).mono ?_); rintro e w41 ⟨rfl, hb⟩; refine ⟨_, rfl, ?_⟩; have n0_ := Aside0.mk (blk_below (g := gb218) (o := .cells #[.int .i64 a1_0, .int .u64 a1_1, .string a1_2] 29 (0, 0)) (by exact phTextsx7_2) hb); have n1_ := Aside0.mk (blk_below (g := gb219) (o := .cells #[.int .i64 a2_0, .int .u64 a2_1, .string a2_2] 29 (0, 0)) (by exact phTextsx7_4) hb); have n2_ := Aside0.mk (below_step (by exact phTextsx7_1) hb); clear BK218; clear BK219; clear HB; have BK218 := n0_; have BK219 := n1_; have HB := n2_; clear n0_ n1_ n2_; (try clear hb); (try clear hb2); (try clear hk); (try clear hi)))
                    go_ret2
                    exact ⟨by exact phTextsx7_3, by exact phTextsx7_1⟩
                  · rw [if_neg c37] at H
                    have c37b0 : (a0 == 5) = false := beq_eq_false_iff_ne.mpr c37
                    have c37b1 : (a0 != 5) = true := bne_iff_ne.mpr c37
                    by_cases c42 : t220 = 0
                    · rw [if_pos c42] at H
                      have c42b0 : (t220 == 0) = true := beq_iff_eq.mpr c42
                      have c42b1 : (t220 != 0) = false := bne_eq_false_iff_eq.mpr c42
                      clear c42
                      simp only [Option.some.injEq, Prod.mk.injEq] at H
                      obtain ⟨rfl, rfl⟩ := H
                      have hnb43 := NB218_219.out
                      have hnc43 := NB219_218.out
                      have hcz44_0 : wc.cell? ⟨gb218, 0, none⟩ = some (.int .i64 a1_0) := (blk_cell BK218.out 0).trans rfl
                      have hcz44_1 : wc.cell? ⟨gb218, 1, none⟩ = some (.int .u64 a1_1) := (blk_cell BK218.out 1).trans rfl
                      have hcz44_2 : wc.cell? ⟨gb218, 2, none⟩ = some (.string a1_2) := (blk_cell BK218.out 2).trans rfl
                      have hfz44_0 := blk_frozen BK218.out 0
                      have hfz44_1 := blk_frozen BK218.out 1
                      have hfz44_2 := blk_frozen BK218.out 2
                      have hcz45_0 : wc.cell? ⟨gb219, 0, none⟩ = some (.int .i64 a2_0) := (blk_cell BK219.out 0).trans rfl
                      have hcz45_1 : wc.cell? ⟨gb219, 1, none⟩ = some (.int .u64 a2_1) := (blk_cell BK219.out 1).trans rfl
                      have hcz45_2 : wc.cell? ⟨gb219, 2, none⟩ = some (.string a2_2) := (blk_cell BK219.out 2).trans rfl
                      have hfz45_0 := blk_frozen BK219.out 0
                      have hfz45_1 := blk_frozen BK219.out 1
                      have hfz45_2 := blk_frozen BK219.out 2
                      go_wp2_with (first | ((with_reducible refine gate_callee (f := 17) rfl ?_); refine goesL_ (some 22) rfl rfl Tryz.func17 (by kernel_rfl) rfl #[.agg #[.int .i64 a1_0, .int .u64 a1_1, .string a1_2], .agg #[.int .i64 a2_0, .int .u64 a2_1, .string a2_2], .string a3] rfl (by exact phTextsx7_5) ?_; (with_reducible refine (relate_Compare.calls kj4 a1_0 a1_1 a1_2 a2_0 a2_1 a2_2 a3 t220 t221 _ A10.out).mono ?_); rintro e w46 ⟨rfl, hb⟩; refine ⟨_, rfl, ?_⟩; have n0_ := Aside0.mk (blk_below (g := gb218) (o := .cells #[.int .i64 a1_0, .int .u64 a1_1, .string a1_2] 29 (0, 0)) (by exact phTextsx7_2) hb); have n1_ := Aside0.mk (blk_below (g := gb219) (o := .cells #[.int .i64 a2_0, .int .u64 a2_1, .string a2_2] 29 (0, 0)) (by exact phTextsx7_4) hb); have n2_ := Aside0.mk (below_step (by exact phTextsx7_1) hb); clear BK218; clear BK219; clear HB; have BK218 := n0_; have BK219 := n1_; have HB := n2_; clear n0_ n1_ n2_; (try clear hb); (try clear hb2); (try clear hk); (try clear hi)))
                      go_ret2
                      exact ⟨by exact phTextsx7_3, by exact phTextsx7_1⟩
                    · rw [if_neg c42] at H
                      have c42b0 : (t220 == 0) = false := beq_eq_false_iff_ne.mpr c42
                      have c42b1 : (t220 != 0) = true := bne_iff_ne.mpr c42
                      simp only [Option.some.injEq, Prod.mk.injEq] at H
                      obtain ⟨rfl, rfl⟩ := H
                      have hnb47 := NB218_219.out
                      have hnc47 := NB219_218.out
                      have hcz48_0 : wc.cell? ⟨gb218, 0, none⟩ = some (.int .i64 a1_0) := (blk_cell BK218.out 0).trans rfl
                      have hcz48_1 : wc.cell? ⟨gb218, 1, none⟩ = some (.int .u64 a1_1) := (blk_cell BK218.out 1).trans rfl
                      have hcz48_2 : wc.cell? ⟨gb218, 2, none⟩ = some (.string a1_2) := (blk_cell BK218.out 2).trans rfl
                      have hfz48_0 := blk_frozen BK218.out 0
                      have hfz48_1 := blk_frozen BK218.out 1
                      have hfz48_2 := blk_frozen BK218.out 2
                      have hcz49_0 : wc.cell? ⟨gb219, 0, none⟩ = some (.int .i64 a2_0) := (blk_cell BK219.out 0).trans rfl
                      have hcz49_1 : wc.cell? ⟨gb219, 1, none⟩ = some (.int .u64 a2_1) := (blk_cell BK219.out 1).trans rfl
                      have hcz49_2 : wc.cell? ⟨gb219, 2, none⟩ = some (.string a2_2) := (blk_cell BK219.out 2).trans rfl
                      have hfz49_0 := blk_frozen BK219.out 0
                      have hfz49_1 := blk_frozen BK219.out 1
                      have hfz49_2 := blk_frozen BK219.out 2
                      go_wp2_with (first | ((with_reducible refine gate_callee (f := 17) rfl ?_); refine goesL_ (some 22) rfl rfl Tryz.func17 (by kernel_rfl) rfl #[.agg #[.int .i64 a1_0, .int .u64 a1_1, .string a1_2], .agg #[.int .i64 a2_0, .int .u64 a2_1, .string a2_2], .string a3] rfl (by exact phTextsx7_5) ?_; (with_reducible refine (relate_Compare.calls kj4 a1_0 a1_1 a1_2 a2_0 a2_1 a2_2 a3 t220 t221 _ A10.out).mono ?_); rintro e w50 ⟨rfl, hb⟩; refine ⟨_, rfl, ?_⟩; have n0_ := Aside0.mk (blk_below (g := gb218) (o := .cells #[.int .i64 a1_0, .int .u64 a1_1, .string a1_2] 29 (0, 0)) (by exact phTextsx7_2) hb); have n1_ := Aside0.mk (blk_below (g := gb219) (o := .cells #[.int .i64 a2_0, .int .u64 a2_1, .string a2_2] 29 (0, 0)) (by exact phTextsx7_4) hb); have n2_ := Aside0.mk (below_step (by exact phTextsx7_1) hb); clear BK218; clear BK219; clear HB; have BK218 := n0_; have BK219 := n1_; have HB := n2_; clear n0_ n1_ n2_; (try clear hb); (try clear hb2); (try clear hk); (try clear hi)))
                      go_ret2
                      exact ⟨by exact phTextsx7_3, by exact phTextsx7_1⟩
        · rw [if_neg c11] at H
          have c11b0 : (t221 == 0) = false := beq_eq_false_iff_ne.mpr c11
          have c11b1 : (t221 != 0) = true := bne_iff_ne.mpr c11
          simp only [Option.some.injEq, Prod.mk.injEq] at H
          obtain ⟨rfl, rfl⟩ := H
          have hnb51 := NB218_219.out
          have hnc51 := NB219_218.out
          have hcz52_0 : wc.cell? ⟨gb218, 0, none⟩ = some (.int .i64 a1_0) := (blk_cell BK218.out 0).trans rfl
          have hcz52_1 : wc.cell? ⟨gb218, 1, none⟩ = some (.int .u64 a1_1) := (blk_cell BK218.out 1).trans rfl
          have hcz52_2 : wc.cell? ⟨gb218, 2, none⟩ = some (.string a1_2) := (blk_cell BK218.out 2).trans rfl
          have hfz52_0 := blk_frozen BK218.out 0
          have hfz52_1 := blk_frozen BK218.out 1
          have hfz52_2 := blk_frozen BK218.out 2
          have hcz53_0 : wc.cell? ⟨gb219, 0, none⟩ = some (.int .i64 a2_0) := (blk_cell BK219.out 0).trans rfl
          have hcz53_1 : wc.cell? ⟨gb219, 1, none⟩ = some (.int .u64 a2_1) := (blk_cell BK219.out 1).trans rfl
          have hcz53_2 : wc.cell? ⟨gb219, 2, none⟩ = some (.string a2_2) := (blk_cell BK219.out 2).trans rfl
          have hfz53_0 := blk_frozen BK219.out 0
          have hfz53_1 := blk_frozen BK219.out 1
          have hfz53_2 := blk_frozen BK219.out 2
          go_wp2_with (first | ((with_reducible refine gate_callee (f := 17) rfl ?_); refine goesL_ (some 22) rfl rfl Tryz.func17 (by kernel_rfl) rfl #[.agg #[.int .i64 a1_0, .int .u64 a1_1, .string a1_2], .agg #[.int .i64 a2_0, .int .u64 a2_1, .string a2_2], .string a3] rfl (by exact phTextsx7_5) ?_; (with_reducible refine (relate_Compare.calls kj4 a1_0 a1_1 a1_2 a2_0 a2_1 a2_2 a3 t220 t221 _ A10.out).mono ?_); rintro e w54 ⟨rfl, hb⟩; refine ⟨_, rfl, ?_⟩; have n0_ := Aside0.mk (blk_below (g := gb218) (o := .cells #[.int .i64 a1_0, .int .u64 a1_1, .string a1_2] 29 (0, 0)) (by exact phTextsx7_2) hb); have n1_ := Aside0.mk (blk_below (g := gb219) (o := .cells #[.int .i64 a2_0, .int .u64 a2_1, .string a2_2] 29 (0, 0)) (by exact phTextsx7_4) hb); have n2_ := Aside0.mk (below_step (by exact phTextsx7_1) hb); clear BK218; clear BK219; clear HB; have BK218 := n0_; have BK219 := n1_; have HB := n2_; clear n0_ n1_ n2_; (try clear hb); (try clear hb2); (try clear hk); (try clear hi)))
          go_ret2
          exact ⟨by exact phTextsx7_3, by exact phTextsx7_1⟩

/-! ### abacuslaw18_queued: function 58 -/
def abacuslaw18_queued.f : Option Bool := some true
theorem abacuslaw18_queued.calls (r : Bool) (w : World) (h : abacuslaw18_queued.f = some r) (HG : Aside0 (GW w) := by exact phTextsx7_7) :
    Calls Tryz.prog 58 #[] w fun e w' => e = .returned (.bool r) ∧ Below w.heap.size w w' := by
  cases h
  exact queued_walk ltE less_ltE lt12 w (GW.five HG.out) HG.out

end Go.Proofs.YtoanmnhkhookfaaGreatDoor.PXRelateTexts
