/- RelateTotal: the plain law; conditions: none. -/
import Derived.Test.YtoanmnhkhookfaaGreatDoorPXRelateTotaly
import Derived.Test.YtoanmnhkhookfaaGreatDoorPureAwake
namespace Go.Proofs.YtoanmnhkhookfaaGreatDoor.Pure
open Go.RowKit Go.Proofs.YtoanmnhkhookfaaGreatDoor.PXRelateTexts Go.Proofs.YtoanmnhkhookfaaGreatDoor.PXRelateTotal Go.Proofs.YtoanmnhkhookfaaGreatDoorW.PrintWords Go.Proofs.YtoanmnhkhookfaaGreatDoorW.PrintLast
open Go.Proofs.YtoanmnhkhookfaaGreatDoor
set_option linter.unusedVariables false

theorem abs_mod {x : Int} (h : 0 ≤ x) (h' : x ≤ 18446744073709551615) : absI x = Int.tmod x 9223372036854775808 := by
  obtain ⟨n, rfl⟩ : ∃ n : Nat, x = (n : Int) := ⟨x.toNat, by omega⟩
  have e1 : (BitVec.ofInt 64 (n : Int) &&& ~~~BitVec.ofInt 64 9223372036854775808).toNat = n % 2 ^ 63 := by
    rw [BitVec.toNat_and, show (~~~BitVec.ofInt 64 9223372036854775808).toNat = 2 ^ 63 - 1 by decide, Nat.and_two_pow_sub_one_eq_mod, BitVec.ofInt_natCast, BitVec.toNat_ofNat]
    omega
  have e2 : IntKind.u64.wrap (((n % 2 ^ 63 : Nat)) : Int) = ((n % 2 ^ 63 : Nat) : Int) := by
    have : IntKind.u64.wrap ((n % 2 ^ 63 : Nat) : Int) = ((n % 2 ^ 63 : Nat) : Int) % 18446744073709551616 := by simp [IntKind.wrap, IntKind.bits, IntKind.signed]
    rw [this]
    omega
  rw [abs_is, e1, e2, Int.tmod_eq_emod_of_nonneg h]
  omega
theorem numeric_val (a0 a1 : Int) (a2 : ByteArray) : value_Numeric.f a0 a1 a2 = some (decide (a0 ≠ 2)) := rfl
theorem isNaN_val (a0 a1 : Int) (a2 : ByteArray) (h : ¬ a0 = 2) (w : 0 ≤ a1 ∧ a1 ≤ 18446744073709551615) : abacuslaw18_isNaN.f a0 a1 a2 = some (nanI (numI (a0, a1, a2))) := by
  have r : 0 ≤ numI (a0, a1, a2) ∧ numI (a0, a1, a2) ≤ 18446744073709551615 := by
    unfold numI
    split
    · exact w
    · omega
  unfold abacuslaw18_isNaN.f
  rw [numeric_val, decide_eq_true h, Option.bind_some, if_pos rfl, toNum_val a0 a1 a2 h, Option.bind_some, ← abs_mod r.1 r.2]
  rfl
theorem class_num (a0 a1 : Int) (a2 : ByteArray) (h : ¬ a0 = 2) : classI (a0, a1, a2) = if nanI (numI (a0, a1, a2)) = true then 1 else 0 := by
  unfold classI
  rw [if_neg (show ¬ (a0, a1, a2).1 = 2 from h)]
theorem ordV_self (a : Val) : ordV a a = 0 := by
  have := ordV_anti a a
  omega
theorem compare_num (a0 a1 : Int) (a2 : ByteArray) (b0 b1 : Int) (b2 cf : ByteArray) (ha : ¬ a0 = 2) (hb : ¬ b0 = 2) :
    Ev (fun k => relate_Compare.f k a0 a1 a2 b0 b1 b2 cf) (if nanI (numI (a0, a1, a2)) = true ∨ nanI (numI (b0, b1, b2)) = true then (2, 0) else (ordI (rankI (numI (a0, a1, a2))) (rankI (numI (b0, b1, b2))), 0)) := by
  refine Ev.congr (f := fun k => relate_Compare.j0 k cf true a0 a1 a2 b0 b1 b2) (fun k => ?_) ?_
  · unfold relate_Compare.f
    rw [numeric_val, numeric_val, decide_eq_true ha, decide_eq_true hb, Option.bind_some, if_pos rfl, Option.bind_some]
  refine Ev.step (f := fun _ => some (if nanI (numI (a0, a1, a2)) = true ∨ nanI (numI (b0, b1, b2)) = true then (2, 0) else (ordI (rankI (numI (a0, a1, a2))) (rankI (numI (b0, b1, b2))), 0))) (fun k => ?_) (Ev.now _)
  have e : relate_Compare.j0 (k + 1) cf true a0 a1 a2 b0 b1 b2 = ((value_ToNum.f a0 a1 a2).bind fun t188 => ((value_ToNum.f b0 b1 b2).bind fun t189 => ((ieee_Compare.f t188 t189).bind fun bt190 => (if bt190.2 = true then (some (bt190.1, (0 : Int))) else (some (2, 0)))))) := rfl
  rw [e, toNum_val a0 a1 a2 ha, toNum_val b0 b1 b2 hb, Option.bind_some, Option.bind_some, cmp_val]
  by_cases c : nanI (numI (a0, a1, a2)) = true ∨ nanI (numI (b0, b1, b2)) = true
  · rw [if_pos c, if_pos c, Option.bind_some, if_neg (by decide)]
  · rw [if_neg c, if_neg c, Option.bind_some, if_pos rfl]

theorem j3_step (k : Nat) (o a0 a1 : Int) (a2 : ByteArray) (b0 b1 : Int) (b2 : ByteArray) : abacuslaw18_RelateTotal.j3 (k + 1) o false a0 a1 a2 b0 b1 b2 = ((relate_Compare.f k a0 a1 a2 b0 b1 b2 (⟨#[]⟩ : ByteArray)).bind fun bt271 => ((abacuslaw18_isNaN.f a0 a1 a2).bind fun t273 => (if t273 = true then (abacuslaw18_RelateTotal.j4 k o bt271.1 bt271.2 true a0 a1 a2 b0 b1 b2) else ((abacuslaw18_isNaN.f b0 b1 b2).bind fun t274 => (abacuslaw18_RelateTotal.j4 k o bt271.1 bt271.2 t274 a0 a1 a2 b0 b1 b2))))) := by
  rw [abacuslaw18_RelateTotal.j3, if_neg Bool.false_ne_true]
theorem j4_nan (k : Nat) (o x y a0 a1 : Int) (a2 : ByteArray) (b0 b1 : Int) (b2 : ByteArray) : abacuslaw18_RelateTotal.j4 (k + 1) o x y true a0 a1 a2 b0 b1 b2 = ((abacuslaw18_isNaN.f a0 a1 a2).bind fun t275 => (if t275 = true then ((abacuslaw18_isNaN.f b0 b1 b2).bind fun t276 => (if t276 = true then (if y = 0 then (if x = 2 then (some (o == 0)) else (some false)) else (some false)) else (if y = 0 then (if x = 2 then (some (o == 1)) else (some false)) else (some false)))) else ((abacuslaw18_isNaN.f b0 b1 b2).bind fun t277 => (if t277 = true then (if y = 0 then (if x = 2 then (some (o == (-1))) else (some false)) else (some false)) else (if y = 0 then (if x = 2 then (some (o == 1)) else (some false)) else (some false)))))) := by
  rw [abacuslaw18_RelateTotal.j4, if_pos rfl]
theorem j4_num (k : Nat) (o x a0 a1 : Int) (a2 : ByteArray) (b0 b1 : Int) (b2 : ByteArray) : abacuslaw18_RelateTotal.j4 (k + 1) o x 0 false a0 a1 a2 b0 b1 b2 = some (x == o) := by
  rw [abacuslaw18_RelateTotal.j4, if_neg Bool.false_ne_true, if_pos rfl]
theorem ord_num (a0 a1 : Int) (a2 : ByteArray) (b0 b1 : Int) (b2 : ByteArray) (ha : ¬ a0 = 2) (hb : ¬ b0 = 2) :
    ordV (a0, a1, a2) (b0, b1, b2) = if nanI (numI (a0, a1, a2)) = true then (if nanI (numI (b0, b1, b2)) = true then 0 else 1) else (if nanI (numI (b0, b1, b2)) = true then -1 else ordI (rankI (numI (a0, a1, a2))) (rankI (numI (b0, b1, b2)))) := by
  unfold ordV
  rw [class_num a0 a1 a2 ha, class_num b0 b1 b2 hb]
  by_cases x : nanI (numI (a0, a1, a2)) = true
  · rw [if_pos x, if_pos x]
    by_cases y : nanI (numI (b0, b1, b2)) = true
    · rw [if_pos y, if_pos y, if_neg (by omega), if_neg (by omega), if_neg (by omega), if_pos rfl]
    · rw [if_neg y, if_neg y, if_neg (by omega), if_pos (by omega)]
  · rw [if_neg x, if_neg x]
    by_cases y : nanI (numI (b0, b1, b2)) = true
    · rw [if_pos y, if_pos y, if_pos (by omega)]
    · rw [if_neg y, if_neg y, if_neg (by omega), if_neg (by omega), if_neg (by omega), if_neg (by omega)]
theorem total_j4 (a0 a1 : Int) (a2 : ByteArray) (b0 b1 : Int) (b2 : ByteArray) (ha : ¬ a0 = 2) (hb : ¬ b0 = 2) (wa : 0 ≤ a1 ∧ a1 ≤ 18446744073709551615) (wb : 0 ≤ b1 ∧ b1 ≤ 18446744073709551615) :
    Ev (fun k => abacuslaw18_RelateTotal.j3 k (ordV (a0, a1, a2) (b0, b1, b2)) false a0 a1 a2 b0 b1 b2) true := by
  have hc := compare_num a0 a1 a2 b0 b1 b2 ⟨#[]⟩ ha hb
  have na := isNaN_val a0 a1 a2 ha wa
  have nb := isNaN_val b0 b1 b2 hb wb
  have ov := ord_num a0 a1 a2 b0 b1 b2 ha hb
  generalize ordV (a0, a1, a2) (b0, b1, b2) = o at ov
  generalize nanI (numI (a0, a1, a2)) = xa at hc na ov
  generalize nanI (numI (b0, b1, b2)) = xb at hc nb ov
  generalize ordI (rankI (numI (a0, a1, a2))) (rankI (numI (b0, b1, b2))) = ri at hc ov
  refine Ev.step (fun k => j3_step k o a0 a1 a2 b0 b1 b2) ?_
  refine Ev.bind hc ?_
  rw [na, nb]
  cases xa with
  | true =>
    refine Ev.congr (f := fun k => abacuslaw18_RelateTotal.j4 k o 2 0 true a0 a1 a2 b0 b1 b2) (fun k => by rw [if_pos (Or.inl rfl), Option.bind_some, if_pos rfl]) ?_
    refine Ev.step (f := fun _ => some true) (fun k => ?_) (Ev.now _)
    rw [j4_nan, na, nb, Option.bind_some, if_pos rfl, Option.bind_some]
    rw [if_pos rfl] at ov
    cases xb with
    | true =>
      rw [if_pos rfl] at ov
      rw [ov, if_pos rfl, if_pos rfl, if_pos rfl]
      rfl
    | false =>
      rw [if_neg Bool.false_ne_true] at ov
      rw [ov, if_neg Bool.false_ne_true, if_pos rfl, if_pos rfl]
      rfl
  | false =>
    rw [if_neg Bool.false_ne_true] at ov
    cases xb with
    | true =>
      rw [if_pos rfl] at ov
      refine Ev.congr (f := fun k => abacuslaw18_RelateTotal.j4 k o 2 0 true a0 a1 a2 b0 b1 b2) (fun k => by rw [if_pos (Or.inr rfl), Option.bind_some, if_neg Bool.false_ne_true, Option.bind_some]) ?_
      refine Ev.step (f := fun _ => some true) (fun k => ?_) (Ev.now _)
      rw [j4_nan, na, nb, Option.bind_some, if_neg Bool.false_ne_true, Option.bind_some, if_pos rfl, if_pos rfl, if_pos rfl, ov]
      rfl
    | false =>
      rw [if_neg Bool.false_ne_true] at ov
      refine Ev.congr (f := fun k => abacuslaw18_RelateTotal.j4 k o ri 0 false a0 a1 a2 b0 b1 b2) (fun k => by rw [if_neg (fun h => h.elim Bool.false_ne_true Bool.false_ne_true), Option.bind_some, if_neg Bool.false_ne_true, Option.bind_some]) ?_
      refine Ev.step (f := fun _ => some true) (fun k => ?_) (Ev.now _)
      rw [j4_num, ov, beq_self_eq_true]
theorem total_j2 (a0 a1 : Int) (a2 : ByteArray) (b0 b1 : Int) (b2 : ByteArray) (wa : 0 ≤ a1 ∧ a1 ≤ 18446744073709551615) (wb : 0 ≤ b1 ∧ b1 ≤ 18446744073709551615) :
    Ev (fun k => abacuslaw18_RelateTotal.j2 k (ordV (a0, a1, a2) (b0, b1, b2)) false a0 a1 a2 b0 b1 b2) true := by
  refine Ev.step (f := fun k => ((value_Numeric.f a0 a1 a2).bind fun t269 => (if t269 = true then ((value_Numeric.f b0 b1 b2).bind fun t270 => (abacuslaw18_RelateTotal.j3 k (ordV (a0, a1, a2) (b0, b1, b2)) (!t270) a0 a1 a2 b0 b1 b2)) else (abacuslaw18_RelateTotal.j3 k (ordV (a0, a1, a2) (b0, b1, b2)) true a0 a1 a2 b0 b1 b2)))) (fun k => rfl) ?_
  have yes : Ev (fun k => abacuslaw18_RelateTotal.j3 k (ordV (a0, a1, a2) (b0, b1, b2)) true a0 a1 a2 b0 b1 b2) true := Ev.step (f := fun _ => some true) (fun k => rfl) (Ev.now _)
  by_cases ha : a0 = 2
  · exact Ev.congr (fun k => by rw [numeric_val, decide_eq_false (not_not_intro ha), Option.bind_some, if_neg (by decide)]) yes
  · by_cases hb : b0 = 2
    · exact Ev.congr (fun k => by rw [numeric_val, numeric_val, decide_eq_true ha, decide_eq_false (not_not_intro hb), Option.bind_some, if_pos rfl, Option.bind_some, Bool.not_false]) yes
    · exact Ev.congr (fun k => by rw [numeric_val, numeric_val, decide_eq_true ha, decide_eq_true hb, Option.bind_some, if_pos rfl, Option.bind_some, Bool.not_true]) (total_j4 a0 a1 a2 b0 b1 b2 ha hb wa wb)
theorem RelateTotal (a b c : Val) (ha : a.2.2.size ≤ 4611686018427387904) (hb : b.2.2.size ≤ 4611686018427387904) (wa : 0 ≤ a.2.1 ∧ a.2.1 ≤ 18446744073709551615) (wb : 0 ≤ b.2.1 ∧ b.2.1 ≤ 18446744073709551615) :
    ∃ k, abacuslaw18_RelateTotal.f k a.1 a.2.1 a.2.2 b.1 b.2.1 b.2.2 c.1 c.2.1 c.2.2 = some true := by
  have r1 := ordV_range a b
  have hself := ordV_self a
  have hanti := ordV_anti a b
  have t1 := ordV_trans a b c
  have t2 := ordV_trans c b a
  have n1 := ordV_anti a b
  have n2 := ordV_anti b c
  have n3 := ordV_anti a c
  have o1 := order_ev a b ha
  have o2 := order_ev b c hb
  have o3 := order_ev a c ha
  have o4 := order_ev b a hb
  have o5 := order_ev a a ha
  have l2 := total_j2 a.1 a.2.1 a.2.2 b.1 b.2.1 b.2.2 wa wb
  obtain ⟨a0, a1, a2⟩ := a
  obtain ⟨b0, b1, b2⟩ := b
  obtain ⟨c0, c1, c2⟩ := c
  rw [n1] at o4
  rw [hself] at o5
  simp only at l2
  generalize ordV (a0, a1, a2) (b0, b1, b2) = ab at *
  generalize ordV (b0, b1, b2) (c0, c1, c2) = bc at *
  generalize ordV (a0, a1, a2) (c0, c1, c2) = ac at *
  have ws : wrap64 (-ab) = -ab := by unfold wrap64; omega
  have l1 : Ev (fun k => abacuslaw18_RelateTotal.j1 k ab bc ac false a0 a1 a2 b0 b1 b2) true := by
    refine Ev.step (f := fun k => abacuslaw18_RelateTotal.j2 k ab false a0 a1 a2 b0 b1 b2) (fun k => ?_) l2
    show (if false = true then (some false) else (if ab ≥ 0 then (if bc ≥ 0 then (if ac < 0 then (abacuslaw18_RelateTotal.j2 k ab true a0 a1 a2 b0 b1 b2) else (if ac = 0 then (if ab = 0 then (abacuslaw18_RelateTotal.j2 k ab (bc != 0) a0 a1 a2 b0 b1 b2) else (abacuslaw18_RelateTotal.j2 k ab true a0 a1 a2 b0 b1 b2)) else (abacuslaw18_RelateTotal.j2 k ab false a0 a1 a2 b0 b1 b2))) else (abacuslaw18_RelateTotal.j2 k ab false a0 a1 a2 b0 b1 b2)) else (abacuslaw18_RelateTotal.j2 k ab false a0 a1 a2 b0 b1 b2))) = _
    rw [if_neg (by decide)]
    by_cases c1 : ab ≥ 0
    · rw [if_pos c1]
      by_cases c2 : bc ≥ 0
      · rw [if_pos c2]
        have t := t2 (by omega) (by omega)
        rw [if_neg (by omega : ¬ ac < 0)]
        by_cases c3 : ac = 0
        · have z := t.2 (by omega)
          have hab : ab = 0 := by omega
          have hbc : bc = 0 := by omega
          rw [if_pos c3, if_pos hab, hbc]
          rfl
        · rw [if_neg c3]
      · rw [if_neg c2]
    · rw [if_neg c1]
  have l0 : Ev (fun k => abacuslaw18_RelateTotal.j0 k ab bc ac false a0 a1 a2 b0 b1 b2) true := by
    refine Ev.step (f := fun k => abacuslaw18_RelateTotal.j1 k ab bc ac false a0 a1 a2 b0 b1 b2) (fun k => ?_) l1
    show (if false = true then (some false) else (if ab ≤ 0 then (if bc ≤ 0 then (if ac > 0 then (abacuslaw18_RelateTotal.j1 k ab bc ac true a0 a1 a2 b0 b1 b2) else (if ac = 0 then (if ab = 0 then (abacuslaw18_RelateTotal.j1 k ab bc ac (bc != 0) a0 a1 a2 b0 b1 b2) else (abacuslaw18_RelateTotal.j1 k ab bc ac true a0 a1 a2 b0 b1 b2)) else (abacuslaw18_RelateTotal.j1 k ab bc ac false a0 a1 a2 b0 b1 b2))) else (abacuslaw18_RelateTotal.j1 k ab bc ac false a0 a1 a2 b0 b1 b2)) else (abacuslaw18_RelateTotal.j1 k ab bc ac false a0 a1 a2 b0 b1 b2))) = _
    rw [if_neg (by decide)]
    by_cases c1 : ab ≤ 0
    · rw [if_pos c1]
      by_cases c2 : bc ≤ 0
      · rw [if_pos c2]
        have t := t1 c1 c2
        rw [if_neg (by omega : ¬ ac > 0)]
        by_cases c3 : ac = 0
        · have z := t.2 c3
          rw [if_pos c3, if_pos z.1, z.2]
          rfl
        · rw [if_neg c3]
      · rw [if_neg c2]
    · rw [if_neg c1]
  refine Ev.rounds ?_
  refine Ev.bind awake_ev ?_
  refine Ev.congr (f := fun k => ((relate_Order.f k a0 a1 a2 b0 b1 b2).bind fun t264 => ((relate_Order.f k b0 b1 b2 c0 c1 c2).bind fun t265 => ((relate_Order.f k a0 a1 a2 c0 c1 c2).bind fun t266 => (if t264 < (-1) then (abacuslaw18_RelateTotal.j0 k t264 t265 t266 true a0 a1 a2 b0 b1 b2) else (if t264 > 1 then (abacuslaw18_RelateTotal.j0 k t264 t265 t266 true a0 a1 a2 b0 b1 b2) else ((relate_Order.f k b0 b1 b2 a0 a1 a2).bind fun t267 => (if t267 = (wrap64 (-t264)) then ((relate_Order.f k a0 a1 a2 a0 a1 a2).bind fun t268 => (abacuslaw18_RelateTotal.j0 k t264 t265 t266 (t268 != 0) a0 a1 a2 b0 b1 b2)) else (abacuslaw18_RelateTotal.j0 k t264 t265 t266 true a0 a1 a2 b0 b1 b2)))))))))  (fun k => by rw [if_pos rfl]) ?_
  refine Ev.bind o1 (Ev.bind o2 (Ev.bind o3 ?_))
  refine Ev.congr (f := fun k => ((relate_Order.f k b0 b1 b2 a0 a1 a2).bind fun t267 => (if t267 = (wrap64 (-ab)) then ((relate_Order.f k a0 a1 a2 a0 a1 a2).bind fun t268 => (abacuslaw18_RelateTotal.j0 k ab bc ac (t268 != 0) a0 a1 a2 b0 b1 b2)) else (abacuslaw18_RelateTotal.j0 k ab bc ac true a0 a1 a2 b0 b1 b2)))) (fun k => by rw [if_neg (by omega), if_neg (by omega)]) ?_
  refine Ev.bind o4 ?_
  refine Ev.congr (f := fun k => ((relate_Order.f k a0 a1 a2 a0 a1 a2).bind fun t268 => (abacuslaw18_RelateTotal.j0 k ab bc ac (t268 != 0) a0 a1 a2 b0 b1 b2))) (fun k => by rw [if_pos ws.symm]) ?_
  exact Ev.bind o5 l0
end Go.Proofs.YtoanmnhkhookfaaGreatDoor.Pure
