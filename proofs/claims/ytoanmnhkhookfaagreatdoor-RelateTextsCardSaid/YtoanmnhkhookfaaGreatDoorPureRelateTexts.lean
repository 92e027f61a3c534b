/- RelateTexts: the plain law; conditions: none. -/
import Derived.Test.YtoanmnhkhookfaaGreatDoorPXRelateTextsx8
import Derived.Test.YtoanmnhkhookfaaGreatDoorEval
namespace Go.Proofs.YtoanmnhkhookfaaGreatDoor.Pure
open Go.RowKit Go.Proofs.YtoanmnhkhookfaaGreatDoor.PXRelateTexts Go.Proofs.YtoanmnhkhookfaaGreatDoorW.PrintWords Go.Proofs.YtoanmnhkhookfaaGreatDoorW.PrintLast
open Go.Proofs.YtoanmnhkhookfaaGreatDoor
set_option linter.unusedVariables false

theorem sort_is : relate_Sort.f [(⟨2, 0, ⟨#[98]⟩⟩ : S29), ⟨1, 4607182418800017408, ⟨#[]⟩⟩, ⟨2, 0, ⟨#[97]⟩⟩] = some [1, 2, 0] := by
  have hs : smallS [(⟨2, 0, ⟨#[98]⟩⟩ : S29), ⟨1, 4607182418800017408, ⟨#[]⟩⟩, ⟨2, 0, ⟨#[97]⟩⟩] := by
    refine ⟨by decide, ?_⟩
    intro x hx
    simp only [List.mem_cons, List.not_mem_nil, or_false] at hx
    rcases hx with rfl | rfl | rfl <;> decide
  unfold relate_Sort.f relate_Top.f
  rw [if_pos hs, Option.bind_some, topIds_at ltE 8 _ _ (by decide)]
  congr 1
theorem awake_ev : Ev (fun k => abacuslaw18_awake.f k) true := by
  have h1 : Ev (fun k => relate_Compare.f k 2 0 ⟨#[49, 48]⟩ 1 4621256167635550208 ⟨#[]⟩ ⟨#[37, 46, 54, 103]⟩) (-1, 0) := Ev.of (fun k => relate_Compare.mono _ _ _ _ _ _ _ k) (k := 40) (by decide +kernel)
  have h2 : Ev (fun k => relate_Holds.f k 5 1 4611686018427387904 ⟨#[]⟩ 1 4607182418800017408 ⟨#[]⟩ ⟨#[]⟩) (true, 0) := Ev.of (fun k => relate_Holds.mono _ _ _ _ _ _ _ _ k) (k := 40) (by decide +kernel)
  refine Ev.congr (f := fun k => (relate_Compare.f k 2 0 ⟨#[49, 48]⟩ 1 4621256167635550208 ⟨#[]⟩ ⟨#[37, 46, 54, 103]⟩).bind fun bt228 => (relate_Holds.f k 5 1 4611686018427387904 ⟨#[]⟩ 1 4607182418800017408 ⟨#[]⟩ ⟨#[]⟩).bind fun bt236 => (if bt228.1 = (-1) then (if bt228.2 = 0 then (if bt236.1 = true then (abacuslaw18_awake.j0 k (bt236.2 != 0)) else (abacuslaw18_awake.j0 k true)) else (abacuslaw18_awake.j0 k true)) else (abacuslaw18_awake.j0 k true))) (fun k => rfl) ?_
  refine Ev.bind h1 (Ev.bind h2 ?_)
  refine Ev.congr (f := fun k => abacuslaw18_awake.j0 k false) (fun k => rfl) ?_
  refine Ev.step (f := fun _ => some true) (fun k => ?_) (Ev.now _)
  simp only [abacuslaw18_awake.j0, abacuslaw18_str.f, abacuslaw18_num.f, Option.bind_some, sort_is]
  rfl
theorem cmp_lt {x y : UInt8} {xs ys : List UInt8} (h : x.toNat < y.toNat) : cmpL (x :: xs) (y :: ys) = -1 := by
  simp only [cmpL]
  rw [if_pos h]
theorem cmp_gt {x y : UInt8} {xs ys : List UInt8} (h : y.toNat < x.toNat) : cmpL (x :: xs) (y :: ys) = 1 := by
  simp only [cmpL]
  rw [if_neg (by omega), if_pos h]
theorem cmp_eq {x y : UInt8} {xs ys : List UInt8} (h : ¬ x.toNat < y.toNat) (h' : ¬ y.toNat < x.toNat) : cmpL (x :: xs) (y :: ys) = cmpL xs ys := by
  simp only [cmpL]
  rw [if_neg h, if_neg h']
theorem ahead_from (a b : ByteArray) (hb : b.size ≤ 4611686018427387904) (d : Nat) : ∀ (i : Nat), i ≤ a.size → i ≤ b.size → b.size - i = d → Ev (fun k => abacuslaw18_ahead.l0 k a b (i : Int)) (decide (cmpL (a.data.toList.drop i) (b.data.toList.drop i) < 0)) := by
  have sa : a.data.toList.length = a.size := by rw [Array.length_toList]; rfl
  have sb : b.data.toList.length = b.size := by rw [Array.length_toList]; rfl
  induction d with
  | zero =>
    intro i h1 h2 hd
    have hi : i = b.size := by omega
    subst hi
    rw [List.drop_of_length_le (by omega : b.data.toList.length ≤ b.size)]
    have hc : decide (cmpL (a.data.toList.drop b.size) [] < 0) = false := by
      cases a.data.toList.drop b.size <;> rfl
    rw [hc]
    exact Ev.step (f := fun _ => some false) (fun k => by simp only [abacuslaw18_ahead.l0]; rw [if_neg (by omega)]) (Ev.now _)
  | succ d ih =>
    intro i h1 h2 hd
    have hib : i < b.size := by omega
    have eb : b.data.toList.drop i = b.data.toList[i]'(by omega) :: b.data.toList.drop (i + 1) := List.drop_eq_getElem_cons (by omega)
    by_cases hia : i < a.size
    · have ea : a.data.toList.drop i = a.data.toList[i]'(by omega) :: a.data.toList.drop (i + 1) := List.drop_eq_getElem_cons (by omega)
      have ba : bt a (i : Int) = ((a.data.toList[i]'(by omega)).toNat : Int) := by
        unfold bt
        rw [Int.toNat_natCast, dif_pos hia]
        rfl
      have bb : bt b (i : Int) = ((b.data.toList[i]'(by omega)).toNat : Int) := by
        unfold bt
        rw [Int.toNat_natCast, dif_pos hib]
        rfl
      rw [ea, eb]
      refine Ev.step (f := fun k => abacuslaw18_ahead.j1 k a b (i : Int) (decide ((bt a (i : Int)) < (bt b (i : Int))))) (fun k => by simp only [abacuslaw18_ahead.l0]; rw [if_pos (by omega), if_neg (by omega), if_pos (by omega), if_pos (by omega)]) ?_
      by_cases c1 : (a.data.toList[i]'(by omega)).toNat < (b.data.toList[i]'(by omega)).toNat
      · rw [cmp_lt c1]
        refine Ev.step (f := fun _ => some true) (fun k => ?_) (Ev.now _)
        simp only [abacuslaw18_ahead.j1]
        rw [if_pos (decide_eq_true (by omega))]
      · have hj : ∀ k, abacuslaw18_ahead.j1 (k + 1) a b (i : Int) (decide ((bt a (i : Int)) < (bt b (i : Int)))) = (if (bt a (i : Int)) > (bt b (i : Int)) then (some false) else (abacuslaw18_ahead.l0 k a b (((i + 1 : Nat) : Int)))) := fun k => by
          simp only [abacuslaw18_ahead.j1]
          rw [if_neg (by rw [decide_eq_true_eq]; omega), if_pos (by omega), if_pos (by omega), if_pos (by omega)]
          have : wrap64 ((i : Int) + 1) = ((i + 1 : Nat) : Int) := by unfold wrap64; omega
          rw [this]
        refine Ev.step hj ?_
        by_cases c2 : (b.data.toList[i]'(by omega)).toNat < (a.data.toList[i]'(by omega)).toNat
        · rw [cmp_gt c2]
          exact Ev.congr (f := fun _ => some false) (fun k => by rw [if_pos (by omega)]) (Ev.now _)
        · rw [cmp_eq c1 c2]
          exact Ev.congr (fun k => by rw [if_neg (by omega)]) (ih (i + 1) (by omega) (by omega) (by omega))
    · have ea : a.data.toList.drop i = [] := List.drop_of_length_le (by omega)
      rw [ea, eb]
      refine Ev.step (f := fun k => abacuslaw18_ahead.j1 k a b (i : Int) true) (fun k => by simp only [abacuslaw18_ahead.l0]; rw [if_pos (by omega), if_pos (by omega)]) ?_
      refine Ev.step (f := fun _ => some true) (fun k => ?_) (Ev.now _)
      simp only [abacuslaw18_ahead.j1]
      rw [if_pos trivial]
theorem ahead_is (a b : ByteArray) (hb : b.size ≤ 4611686018427387904) : Ev (fun k => abacuslaw18_ahead.f k a b) (decide (cmpT a b < 0)) := ahead_from a b hb b.size 0 (Nat.zero_le _) (Nat.zero_le _) (by omega)
theorem law_from (a b cf : ByteArray) (x : Int) (ha : a.size ≤ 140737488351232) (hb : b.size ≤ 140737488351232) : Ev (fun k => abacuslaw18_RelateTexts.j0 k a b cf x (cmpT a b)) true := by
  have hc : Ev (fun k => relate_Compare.f k 2 0 a 2 0 b cf) (cmpT a b, 0) := by
    refine Ev.congr (f := fun k => relate_Compare.j0 k cf false 2 0 a 2 0 b) (fun k => rfl) ?_
    refine Ev.step (f := fun k => (relate_texts.f k a b).bind fun t => some (t, 0)) (fun k => ?_) (Ev.bind (texts_ev a b (by omega)) (Ev.now _))
    simp only [relate_Compare.j0, value_ToStr.f]
    rfl
  have o1 := order_ev (2, 0, a) (2, 0, b) (by show a.size ≤ _; omega)
  have o2 := order_ev (1, x, ⟨#[]⟩) (2, 0, a) (by show 0 ≤ _; omega)
  have o3 := order_ev (2, 0, a) (0, 0, ⟨#[]⟩) (by show a.size ≤ _; omega)
  have v1 : ordV (2, 0, a) (2, 0, b) = cmpT a b := rfl
  have v2 : ordV (1, x, ⟨#[]⟩) (2, 0, a) = -1 := by
    have hc2 : classI (2, 0, a) = 2 := rfl
    have hc1 : classI (1, x, ⟨#[]⟩) < 2 := by
      unfold classI
      rw [if_neg (show ¬ (1 : Int) = 2 by decide)]
      split <;> omega
    unfold ordV
    rw [if_pos (by omega)]
  have v3 : ordV (2, 0, a) (0, 0, ⟨#[]⟩) = 1 := by
    have hc2 : classI (2, 0, a) = 2 := rfl
    have hc1 : classI (0, 0, ⟨#[]⟩) = 0 := by decide +kernel
    unfold ordV
    rw [hc1, hc2]
    rfl
  rw [v1] at o1
  rw [v2] at o2
  rw [v3] at o3
  refine Ev.step (f := fun k => (relate_Compare.f k 2 0 a 2 0 b cf).bind fun bt266 => (if bt266.1 = cmpT a b then (if bt266.2 = 0 then ((relate_Order.f k 2 0 a 2 0 b).bind fun t274 => (if t274 = cmpT a b then ((relate_Order.f k 1 x ⟨#[]⟩ 2 0 a).bind fun t281 => (if t281 = (-1) then ((relate_Order.f k 2 0 a 0 0 ⟨#[]⟩).bind fun t285 => (some (t285 == 1))) else (some false))) else (some false))) else (some false)) else (some false))) (fun k => rfl) ?_
  refine Ev.bind hc ?_
  refine Ev.congr (f := fun k => ((relate_Order.f k 2 0 a 2 0 b).bind fun t274 => (if t274 = cmpT a b then ((relate_Order.f k 1 x ⟨#[]⟩ 2 0 a).bind fun t281 => (if t281 = (-1) then ((relate_Order.f k 2 0 a 0 0 ⟨#[]⟩).bind fun t285 => (some (t285 == 1))) else (some false))) else (some false)))) (fun k => by rw [if_pos rfl, if_pos rfl]) ?_
  refine Ev.bind o1 ?_
  refine Ev.congr (f := fun k => ((relate_Order.f k 1 x ⟨#[]⟩ 2 0 a).bind fun t281 => (if t281 = (-1) then ((relate_Order.f k 2 0 a 0 0 ⟨#[]⟩).bind fun t285 => (some (t285 == 1))) else (some false)))) (fun k => by rw [if_pos rfl]) ?_
  refine Ev.bind o2 ?_
  refine Ev.congr (f := fun k => ((relate_Order.f k 2 0 a 0 0 ⟨#[]⟩).bind fun t285 => (some (t285 == 1)))) (fun k => by rw [if_pos rfl]) ?_
  exact Ev.bind o3 (Ev.now _)
theorem RelateTexts : abacuslaw18_RelateTexts.Pure := by
  intro a b cf x ha hb _ _
  have hr := cmpL_range a.data.toList b.data.toList
  have hr' : -1 ≤ cmpT a b ∧ cmpT a b ≤ 1 := hr
  have han : cmpT b a = -cmpT a b := cmpL_anti _ _
  have hl := law_from a b cf x ha hb
  refine Ev.rounds ?_
  refine Ev.bind awake_ev ?_
  refine Ev.congr (f := fun k => ((abacuslaw18_ahead.f k a b).bind fun t258 => (if t258 = true then (abacuslaw18_RelateTexts.j0 k a b cf x (-1)) else ((abacuslaw18_ahead.f k b a).bind fun t259 => (if t259 = true then (abacuslaw18_RelateTexts.j0 k a b cf x 1) else (abacuslaw18_RelateTexts.j0 k a b cf x 0)))))) (fun k => by rw [if_pos rfl]) ?_
  refine Ev.bind (ahead_is a b (by omega)) ?_
  by_cases c1 : cmpT a b < 0
  · have e : cmpT a b = -1 := by omega
    rw [e] at hl
    exact Ev.congr (fun k => by rw [if_pos (decide_eq_true c1)]) hl
  · refine Ev.congr (f := fun k => ((abacuslaw18_ahead.f k b a).bind fun t259 => (if t259 = true then (abacuslaw18_RelateTexts.j0 k a b cf x 1) else (abacuslaw18_RelateTexts.j0 k a b cf x 0)))) (fun k => by rw [if_neg (by rw [decide_eq_true_eq]; exact c1)]) ?_
    refine Ev.bind (ahead_is b a (by omega)) ?_
    by_cases c2 : cmpT b a < 0
    · have e : cmpT a b = 1 := by omega
      rw [e] at hl
      exact Ev.congr (fun k => by rw [if_pos (decide_eq_true c2)]) hl
    · have e : cmpT a b = 0 := by omega
      rw [e] at hl
      exact Ev.congr (fun k => by rw [if_neg (by rw [decide_eq_true_eq]; exact c2)]) hl
end Go.Proofs.YtoanmnhkhookfaaGreatDoor.Pure
