/- The machine's side of a law, printed by a program of this session out of the translation; conditions: none. -/
import Derived.Test.YtoanmnhkhookfaaGreatDoorPXRelateTextsx0
import Derived.Test.YtoanmnhkhookfaaGreatDoorPXRelateTextsx1
import Derived.Test.YtoanmnhkhookfaaGreatDoorPXRelateTextsx2
import Derived.Test.YtoanmnhkhookfaaGreatDoorPXRelateTextsx3
import Derived.Test.YtoanmnhkhookfaaGreatDoorPXRelateTextsx4
import Derived.Test.YtoanmnhkhookfaaGreatDoorPXRelateTextsx5
import Derived.Test.YtoanmnhkhookfaaGreatDoorPXRelateTextsx6
import Derived.Test.YtoanmnhkhookfaaGreatDoorPXRelateTextsx7
import Derived.Test.YtoanmnhkhookfaaGreatDoorPXAwake
import Derived.Test.YtoanmnhkhookfaaGreatDoorEval
namespace Go.Proofs.YtoanmnhkhookfaaGreatDoor.PXRelateTotal
open Go.Proofs.YtoanmnhkhookfaaGreatDoor Go.Proofs.YtoanmnhkhookfaaGreatDoor.PXRelateTexts
open Go.RowKit Go.Proofs.YtoanmnhkhookfaaGreatDoorW.PrintWords Go.Proofs.YtoanmnhkhookfaaGreatDoorW.PrintLast Go.Proofs.YtoanmnhkhookfaaGreatDoorW.PrintMore
attribute [local go_sem] max2_int min2_int max_two min_two max_three min_three max_four min_four   -- for this text's walks alone
set_option linter.unusedVariables false
set_option linter.unusedSimpArgs false

/-! ### abacuslaw18_isNaN: function 22 -/
def abacuslaw18_isNaN.f (a0_0 : Int) (a0_1 : Int) (a0_2 : ByteArray) : Option (Bool) := (value_Numeric.f a0_0 a0_1 a0_2).bind fun t258 => (if t258 = true then ((value_ToNum.f a0_0 a0_1 a0_2).bind fun t259 => (some (decide ((Int.tmod t259 9223372036854775808) > 9218868437227405312)))) else (some false))
set_option maxHeartbeats 8000000 in
set_option maxRecDepth 100000 in
theorem abacuslaw18_isNaN.calls (a0_0 : Int) (a0_1 : Int) (a0_2 : ByteArray) (r : Bool) (w : World) (h : abacuslaw18_isNaN.f a0_0 a0_1 a0_2 = some r) (HG : Aside0 (GW w) := by first | (with_reducible exact HG) | exact ⟨GW.below HG.out (by repeat (first | (with_reducible first | exact HB.out | apply below_alloc | apply pw_below_drewN | apply below_drew1) | (with_reducible refine below_set ?_ (Aside0.out (by assumption))) | exact HB.out | exact Below.refl _ _))⟩ | exact ⟨GW.drewN HG.out _⟩ | exact ⟨GW.drew HG.out⟩ | exact ⟨GW.drewN (GW.drewN HG.out _) _⟩ | exact ⟨GW.drewN (GW.drew HG.out) _⟩) :
    Calls Tryz.prog 22 #[.agg #[.int .i64 a0_0, .int .u64 a0_1, .string a0_2]] w fun e w' => e = .returned (.bool r) ∧ Below w.heap.size w w' := by
  have hu29 := Tryz.underlying29
  have HB := Aside0.mk (Below.refl w.heap.size w)
  have H : ((value_Numeric.f a0_0 a0_1 a0_2).bind fun t258 => (if t258 = true then ((value_ToNum.f a0_0 a0_1 a0_2).bind fun t259 => (some (decide ((Int.tmod t259 9223372036854775808) > 9218868437227405312)))) else (some false))) = some r := h
  clear h
  replace H := Option.bind_eq_some_iff.mp H
  obtain ⟨t258, A20, H⟩ := H
  replace H : (if t258 = true then ((value_ToNum.f a0_0 a0_1 a0_2).bind fun t259 => (some (decide ((Int.tmod t259 9223372036854775808) > 9218868437227405312)))) else (some false)) = some r := H
  have A2 := Aside0.mk A20
  clear A20
  by_cases c3 : t258 = true
  · subst c3
    have H1 : ((value_ToNum.f a0_0 a0_1 a0_2).bind fun t259 => (some (decide ((Int.tmod t259 9223372036854775808) > 9218868437227405312)))) = some r := by rw [if_pos rfl] at H; exact H
    clear H
    have H := H1
    clear H1
    replace H := Option.bind_eq_some_iff.mp H
    obtain ⟨t259, A40, H⟩ := H
    replace H : (some (decide ((Int.tmod t259 9223372036854775808) > 9218868437227405312))) = some r := H
    have A4 := Aside0.mk A40
    clear A40
    obtain rfl := Option.some.inj H
    go_enter Tryz.func22, Tryz.ntmps22
    go_wp2_with (first | ((with_reducible refine gate_dst (N := 1) rfl ?_); refine box_event ?hg (N := 1) ?hd (cs := #[.int .i64 a0_0, .int .u64 a0_1, .string a0_2]) (t := 29) ?hr ?_; (case hd => rfl); (case hg => rfl); (case hr => first | (go_simp; done) | (go_simp; rfl)); intro gb257 hg w5 hbox hb; have n0_ := Aside0.mk (below_step (by repeat (first | (with_reducible first | exact HB.out | apply below_alloc | apply pw_below_drewN | apply below_drew1) | exact HB.out)) hb); have n1_ := Aside0.mk (hbox); have n2_ := Aside0.mk ((by rw [hg]; exact (below_size (by repeat (first | (with_reducible first | exact HB.out | apply below_alloc | apply pw_below_drewN | apply below_drew1) | exact HB.out))) : w.heap.size ≤ gb257)); have n3_ := Aside0.mk ((by rw [hg]; exact (below_size (by repeat (first | (with_reducible first | exact HB.out | apply below_alloc | apply pw_below_drewN | apply below_drew1) | exact HB.out))) : w.heap.size ≤ gb257)); clear HB; have HB := n0_; have BK257 := n1_; have GW257 := n2_; have GE257 := n3_; clear n0_ n1_ n2_ n3_; clear hb hbox hg; have hcz6_0 : w5.cell? ⟨gb257, 0, none⟩ = some (.int .i64 a0_0) := (blk_cell BK257.out 0).trans rfl; have hcz6_1 : w5.cell? ⟨gb257, 1, none⟩ = some (.int .u64 a0_1) := (blk_cell BK257.out 1).trans rfl; have hcz6_2 : w5.cell? ⟨gb257, 2, none⟩ = some (.string a0_2) := (blk_cell BK257.out 2).trans rfl; have hfz6_0 := blk_frozen BK257.out 0; have hfz6_1 := blk_frozen BK257.out 1; have hfz6_2 := blk_frozen BK257.out 2) | ((with_reducible refine gate_callee (f := 21) rfl ?_); refine goesL_ (some 4) rfl rfl Tryz.func21 (by kernel_rfl) rfl #[.agg #[.int .i64 a0_0, .int .u64 a0_1, .string a0_2]] rfl (by (try simp only [List.map_toArray, List.map_cons, List.map_nil]); first | done | rfl | (simp only [List.length_drop, List.length_take]; rfl)) ?_; (with_reducible refine (value_Numeric.calls a0_0 a0_1 a0_2 true _ A2.out).mono ?_); rintro e w7 ⟨rfl, hb⟩; refine ⟨_, rfl, ?_⟩; have n0_ := Aside0.mk (blk_below (g := gb257) (o := .cells #[.int .i64 a0_0, .int .u64 a0_1, .string a0_2] 29 (0, 0)) (by (with_reducible repeat (first | refine blk_drewN ?_ _ | refine blk_drew ?_ | refine blk_alloc ?_ _)); exact BK257.out) hb); have n1_ := Aside0.mk (below_step (by repeat (first | (with_reducible first | exact HB.out | apply below_alloc | apply pw_below_drewN | apply below_drew1 | refine below_set ?_ GE257.out) | exact HB.out)) hb); clear BK257; clear HB; have BK257 := n0_; have HB := n1_; clear n0_ n1_; (try clear hb); (try clear hb2); (try clear hk); (try clear hi); have hcz8_0 : w7.cell? ⟨gb257, 0, none⟩ = some (.int .i64 a0_0) := (blk_cell BK257.out 0).trans rfl; have hcz8_1 : w7.cell? ⟨gb257, 1, none⟩ = some (.int .u64 a0_1) := (blk_cell BK257.out 1).trans rfl; have hcz8_2 : w7.cell? ⟨gb257, 2, none⟩ = some (.string a0_2) := (blk_cell BK257.out 2).trans rfl; have hfz8_0 := blk_frozen BK257.out 0; have hfz8_1 := blk_frozen BK257.out 1; have hfz8_2 := blk_frozen BK257.out 2) | ((with_reducible refine gate_callee (f := 60) rfl ?_); refine goesL_ (some 7) rfl rfl Tryz.func60 (by kernel_rfl) rfl #[.agg #[.int .i64 a0_0, .int .u64 a0_1, .string a0_2]] rfl (by (try simp only [List.map_toArray, List.map_cons, List.map_nil]); first | done | rfl | (simp only [List.length_drop, List.length_take]; rfl)) ?_; (with_reducible refine (value_ToNum.calls a0_0 a0_1 a0_2 t259 _ A4.out).mono ?_); rintro e w9 ⟨rfl, hb⟩; refine ⟨_, rfl, ?_⟩; have n0_ := Aside0.mk (blk_below (g := gb257) (o := .cells #[.int .i64 a0_0, .int .u64 a0_1, .string a0_2] 29 (0, 0)) (by (with_reducible repeat (first | refine blk_drewN ?_ _ | refine blk_drew ?_ | refine blk_alloc ?_ _)); exact BK257.out) hb); have n1_ := Aside0.mk (below_step (by repeat (first | (with_reducible first | exact HB.out | apply below_alloc | apply pw_below_drewN | apply below_drew1 | refine below_set ?_ GE257.out) | exact HB.out)) hb); clear BK257; clear HB; have BK257 := n0_; have HB := n1_; clear n0_ n1_; (try clear hb); (try clear hb2); (try clear hk); (try clear hi)))
    go_ret
    exact ⟨by first | rfl | (simp [errW_none, errW_some] <;> rfl) | (simp only [append_nothing]; done) | (simp only [append_nothing]; rfl) | (simp [*, errW_none, errW_some] <;> rfl), by repeat (first | (with_reducible first | exact HB.out | apply below_alloc | apply pw_below_drewN | apply below_drew1 | refine below_set ?_ GE257.out) | exact HB.out)⟩
  · replace c3 := Bool.eq_false_iff.mpr c3
    subst c3
    have H1 : (some false) = some r := by rw [if_neg (show ¬ (false = true) by decide)] at H; exact H
    clear H
    have H := H1
    clear H1
    obtain rfl := Option.some.inj H
    go_enter Tryz.func22, Tryz.ntmps22
    go_wp2_with (first | ((with_reducible refine gate_dst (N := 1) rfl ?_); refine box_event ?hg (N := 1) ?hd (cs := #[.int .i64 a0_0, .int .u64 a0_1, .string a0_2]) (t := 29) ?hr ?_; (case hd => rfl); (case hg => rfl); (case hr => first | (go_simp; done) | (go_simp; rfl)); intro gb257 hg w10 hbox hb; have n0_ := Aside0.mk (below_step (by repeat (first | (with_reducible first | exact HB.out | apply below_alloc | apply pw_below_drewN | apply below_drew1) | exact HB.out)) hb); have n1_ := Aside0.mk (hbox); have n2_ := Aside0.mk ((by rw [hg]; exact (below_size (by repeat (first | (with_reducible first | exact HB.out | apply below_alloc | apply pw_below_drewN | apply below_drew1) | exact HB.out))) : w.heap.size ≤ gb257)); have n3_ := Aside0.mk ((by rw [hg]; exact (below_size (by repeat (first | (with_reducible first | exact HB.out | apply below_alloc | apply pw_below_drewN | apply below_drew1) | exact HB.out))) : w.heap.size ≤ gb257)); clear HB; have HB := n0_; have BK257 := n1_; have GW257 := n2_; have GE257 := n3_; clear n0_ n1_ n2_ n3_; clear hb hbox hg; have hcz11_0 : w10.cell? ⟨gb257, 0, none⟩ = some (.int .i64 a0_0) := (blk_cell BK257.out 0).trans rfl; have hcz11_1 : w10.cell? ⟨gb257, 1, none⟩ = some (.int .u64 a0_1) := (blk_cell BK257.out 1).trans rfl; have hcz11_2 : w10.cell? ⟨gb257, 2, none⟩ = some (.string a0_2) := (blk_cell BK257.out 2).trans rfl; have hfz11_0 := blk_frozen BK257.out 0; have hfz11_1 := blk_frozen BK257.out 1; have hfz11_2 := blk_frozen BK257.out 2) | ((with_reducible refine gate_callee (f := 21) rfl ?_); refine goesL_ (some 4) rfl rfl Tryz.func21 (by kernel_rfl) rfl #[.agg #[.int .i64 a0_0, .int .u64 a0_1, .string a0_2]] rfl (by (try simp only [List.map_toArray, List.map_cons, List.map_nil]); first | done | rfl | (simp only [List.length_drop, List.length_take]; rfl)) ?_; (with_reducible refine (value_Numeric.calls a0_0 a0_1 a0_2 false _ A2.out).mono ?_); rintro e w12 ⟨rfl, hb⟩; refine ⟨_, rfl, ?_⟩; have n0_ := Aside0.mk (blk_below (g := gb257) (o := .cells #[.int .i64 a0_0, .int .u64 a0_1, .string a0_2] 29 (0, 0)) (by (with_reducible repeat (first | refine blk_drewN ?_ _ | refine blk_drew ?_ | refine blk_alloc ?_ _)); exact BK257.out) hb); have n1_ := Aside0.mk (below_step (by repeat (first | (with_reducible first | exact HB.out | apply below_alloc | apply pw_below_drewN | apply below_drew1 | refine below_set ?_ GE257.out) | exact HB.out)) hb); clear BK257; clear HB; have BK257 := n0_; have HB := n1_; clear n0_ n1_; (try clear hb); (try clear hb2); (try clear hk); (try clear hi)))
    go_ret
    exact ⟨by first | rfl | (simp [errW_none, errW_some] <;> rfl) | (simp only [append_nothing]; done) | (simp only [append_nothing]; rfl) | (simp [*, errW_none, errW_some] <;> rfl), by repeat (first | (with_reducible first | exact HB.out | apply below_alloc | apply pw_below_drewN | apply below_drew1 | refine below_set ?_ GE257.out) | exact HB.out)⟩

/-! ### abacuslaw18_RelateTotal: function 4 -/
mutual
def abacuslaw18_RelateTotal.j0 : Nat → Int → Int → Int → Bool → Int → Int → ByteArray → Int → Int → ByteArray → Option (Bool)
  | 0, _, _, _, _, _, _, _, _, _, _ => none
  | k + 1, x8, x9, x10, x45, x261000, x261001, x261002, x262000, x262001, x262002 => if x45 = true then (some false) else (if x8 ≤ 0 then (if x9 ≤ 0 then (if x10 > 0 then (abacuslaw18_RelateTotal.j1 k x8 x9 x10 true x261000 x261001 x261002 x262000 x262001 x262002) else (if x10 = 0 then (if x8 = 0 then (abacuslaw18_RelateTotal.j1 k x8 x9 x10 (x9 != 0) x261000 x261001 x261002 x262000 x262001 x262002) else (abacuslaw18_RelateTotal.j1 k x8 x9 x10 true x261000 x261001 x261002 x262000 x262001 x262002)) else (abacuslaw18_RelateTotal.j1 k x8 x9 x10 false x261000 x261001 x261002 x262000 x262001 x262002))) else (abacuslaw18_RelateTotal.j1 k x8 x9 x10 false x261000 x261001 x261002 x262000 x262001 x262002)) else (abacuslaw18_RelateTotal.j1 k x8 x9 x10 false x261000 x261001 x261002 x262000 x262001 x262002))
def abacuslaw18_RelateTotal.j1 : Nat → Int → Int → Int → Bool → Int → Int → ByteArray → Int → Int → ByteArray → Option (Bool)
  | 0, _, _, _, _, _, _, _, _, _, _ => none
  | k + 1, x8, x9, x10, x67, x261000, x261001, x261002, x262000, x262001, x262002 => if x67 = true then (some false) else (if x8 ≥ 0 then (if x9 ≥ 0 then (if x10 < 0 then (abacuslaw18_RelateTotal.j2 k x8 true x261000 x261001 x261002 x262000 x262001 x262002) else (if x10 = 0 then (if x8 = 0 then (abacuslaw18_RelateTotal.j2 k x8 (x9 != 0) x261000 x261001 x261002 x262000 x262001 x262002) else (abacuslaw18_RelateTotal.j2 k x8 true x261000 x261001 x261002 x262000 x262001 x262002)) else (abacuslaw18_RelateTotal.j2 k x8 false x261000 x261001 x261002 x262000 x262001 x262002))) else (abacuslaw18_RelateTotal.j2 k x8 false x261000 x261001 x261002 x262000 x262001 x262002)) else (abacuslaw18_RelateTotal.j2 k x8 false x261000 x261001 x261002 x262000 x262001 x262002))
def abacuslaw18_RelateTotal.j2 : Nat → Int → Bool → Int → Int → ByteArray → Int → Int → ByteArray → Option (Bool)
  | 0, _, _, _, _, _, _, _, _ => none
  | k + 1, x8, x89, x261000, x261001, x261002, x262000, x262001, x262002 => if x89 = true then (some false) else ((value_Numeric.f x261000 x261001 x261002).bind fun t269 => (if t269 = true then ((value_Numeric.f x262000 x262001 x262002).bind fun t270 => (abacuslaw18_RelateTotal.j3 k x8 (!t270) x261000 x261001 x261002 x262000 x262001 x262002)) else (abacuslaw18_RelateTotal.j3 k x8 true x261000 x261001 x261002 x262000 x262001 x262002)))
def abacuslaw18_RelateTotal.j3 : Nat → Int → Bool → Int → Int → ByteArray → Int → Int → ByteArray → Option (Bool)
  | 0, _, _, _, _, _, _, _, _ => none
  | k + 1, x8, x97, x261000, x261001, x261002, x262000, x262001, x262002 => if x97 = true then (some true) else ((relate_Compare.f k x261000 x261001 x261002 x262000 x262001 x262002 (⟨#[]⟩ : ByteArray)).bind fun bt271 => ((abacuslaw18_isNaN.f x261000 x261001 x261002).bind fun t273 => (if t273 = true then (abacuslaw18_RelateTotal.j4 k x8 bt271.1 bt271.2 true x261000 x261001 x261002 x262000 x262001 x262002) else ((abacuslaw18_isNaN.f x262000 x262001 x262002).bind fun t274 => (abacuslaw18_RelateTotal.j4 k x8 bt271.1 bt271.2 t274 x261000 x261001 x261002 x262000 x262001 x262002)))))
def abacuslaw18_RelateTotal.j4 : Nat → Int → Int → Int → Bool → Int → Int → ByteArray → Int → Int → ByteArray → Option (Bool)
  | 0, _, _, _, _, _, _, _, _, _, _ => none
  | k + 1, x8, x11, x12, x109, x261000, x261001, x261002, x262000, x262001, x262002 => if x109 = true then ((abacuslaw18_isNaN.f x261000 x261001 x261002).bind fun t275 => (if t275 = true then ((abacuslaw18_isNaN.f x262000 x262001 x262002).bind fun t276 => (if t276 = true then (if x12 = 0 then (if x11 = 2 then (some (x8 == 0)) else (some false)) else (some false)) else (if x12 = 0 then (if x11 = 2 then (some (x8 == 1)) else (some false)) else (some false)))) else ((abacuslaw18_isNaN.f x262000 x262001 x262002).bind fun t277 => (if t277 = true then (if x12 = 0 then (if x11 = 2 then (some (x8 == (-1))) else (some false)) else (some false)) else (if x12 = 0 then (if x11 = 2 then (some (x8 == 1)) else (some false)) else (some false)))))) else (if x12 = 0 then (some (x11 == x8)) else (some false))
end
def abacuslaw18_RelateTotal.f (k : Nat) (a0_0 : Int) (a0_1 : Int) (a0_2 : ByteArray) (a1_0 : Int) (a1_1 : Int) (a1_2 : ByteArray) (a2_0 : Int) (a2_1 : Int) (a2_2 : ByteArray) : Option (Bool) := (abacuslaw18_awake.f k).bind fun t263 => (if t263 = true then ((relate_Order.f k a0_0 a0_1 a0_2 a1_0 a1_1 a1_2).bind fun t264 => ((relate_Order.f k a1_0 a1_1 a1_2 a2_0 a2_1 a2_2).bind fun t265 => ((relate_Order.f k a0_0 a0_1 a0_2 a2_0 a2_1 a2_2).bind fun t266 => (if t264 < (-1) then (abacuslaw18_RelateTotal.j0 k t264 t265 t266 true a0_0 a0_1 a0_2 a1_0 a1_1 a1_2) else (if t264 > 1 then (abacuslaw18_RelateTotal.j0 k t264 t265 t266 true a0_0 a0_1 a0_2 a1_0 a1_1 a1_2) else ((relate_Order.f k a1_0 a1_1 a1_2 a0_0 a0_1 a0_2).bind fun t267 => (if t267 = (wrap64 (-t264)) then ((relate_Order.f k a0_0 a0_1 a0_2 a0_0 a0_1 a0_2).bind fun t268 => (abacuslaw18_RelateTotal.j0 k t264 t265 t266 (t268 != 0) a0_0 a0_1 a0_2 a1_0 a1_1 a1_2)) else (abacuslaw18_RelateTotal.j0 k t264 t265 t266 true a0_0 a0_1 a0_2 a1_0 a1_1 a1_2)))))))) else (some false))
theorem abacuslaw18_RelateTotal.mono_l : ∀ k, (∀ y0 y1 y2 y3 y4 y5 y6 y7 y8 y9, LeO (abacuslaw18_RelateTotal.j0 k y0 y1 y2 y3 y4 y5 y6 y7 y8 y9) (abacuslaw18_RelateTotal.j0 (k + 1) y0 y1 y2 y3 y4 y5 y6 y7 y8 y9)) ∧ (∀ y0 y1 y2 y3 y4 y5 y6 y7 y8 y9, LeO (abacuslaw18_RelateTotal.j1 k y0 y1 y2 y3 y4 y5 y6 y7 y8 y9) (abacuslaw18_RelateTotal.j1 (k + 1) y0 y1 y2 y3 y4 y5 y6 y7 y8 y9)) ∧ (∀ y0 y1 y2 y3 y4 y5 y6 y7, LeO (abacuslaw18_RelateTotal.j2 k y0 y1 y2 y3 y4 y5 y6 y7) (abacuslaw18_RelateTotal.j2 (k + 1) y0 y1 y2 y3 y4 y5 y6 y7)) ∧ (∀ y0 y1 y2 y3 y4 y5 y6 y7, LeO (abacuslaw18_RelateTotal.j3 k y0 y1 y2 y3 y4 y5 y6 y7) (abacuslaw18_RelateTotal.j3 (k + 1) y0 y1 y2 y3 y4 y5 y6 y7)) ∧ (∀ y0 y1 y2 y3 y4 y5 y6 y7 y8 y9, LeO (abacuslaw18_RelateTotal.j4 k y0 y1 y2 y3 y4 y5 y6 y7 y8 y9) (abacuslaw18_RelateTotal.j4 (k + 1) y0 y1 y2 y3 y4 y5 y6 y7 y8 y9))
  | 0 => ⟨fun _ _ _ _ _ _ _ _ _ _ r h => by simp [abacuslaw18_RelateTotal.j0] at h, fun _ _ _ _ _ _ _ _ _ _ r h => by simp [abacuslaw18_RelateTotal.j1] at h, fun _ _ _ _ _ _ _ _ r h => by simp [abacuslaw18_RelateTotal.j2] at h, fun _ _ _ _ _ _ _ _ r h => by simp [abacuslaw18_RelateTotal.j3] at h, fun _ _ _ _ _ _ _ _ _ _ r h => by simp [abacuslaw18_RelateTotal.j4] at h⟩
  | k + 1 => by
    obtain ⟨ih0, ih1, ih2, ih3, ih4⟩ := abacuslaw18_RelateTotal.mono_l k
    refine ⟨?_, ?_, ?_, ?_, ?_⟩
    · intro y0 y1 y2 y3 y4 y5 y6 y7 y8 y9
      unfold abacuslaw18_RelateTotal.j0
      repeat' first
      | (with_reducible exact ih0 _ _ _ _ _ _ _ _ _ _)
      | (with_reducible exact ih1 _ _ _ _ _ _ _ _ _ _)
      | (with_reducible exact ih2 _ _ _ _ _ _ _ _)
      | (with_reducible exact ih3 _ _ _ _ _ _ _ _)
      | (with_reducible exact ih4 _ _ _ _ _ _ _ _ _ _)
      | (with_reducible exact abacuslaw18_awake.mono _)
      | (with_reducible exact relate_Compare.mono _ _ _ _ _ _ _ _)
      | (with_reducible exact relate_Order.mono _ _ _ _ _ _ _)
      | (with_reducible exact LeO.refl _)
      | (with_reducible exact LeO.none _)
      | (with_reducible refine LeO.ite ?_ ?_)
      | (with_reducible refine LeO.bind ?_ (fun _ => ?_))
      | exact ih0 _ _ _ _ _ _ _ _ _ _
      | exact ih1 _ _ _ _ _ _ _ _ _ _
      | exact ih2 _ _ _ _ _ _ _ _
      | exact ih3 _ _ _ _ _ _ _ _
      | exact ih4 _ _ _ _ _ _ _ _ _ _
      | exact abacuslaw18_awake.mono _
      | exact relate_Compare.mono _ _ _ _ _ _ _ _
      | exact relate_Order.mono _ _ _ _ _ _ _
      | exact LeO.none _
      | refine LeO.ite ?_ ?_
      | refine LeO.bind ?_ (fun _ => ?_)
    · intro y0 y1 y2 y3 y4 y5 y6 y7 y8 y9
      unfold abacuslaw18_RelateTotal.j1
      repeat' first
      | (with_reducible exact ih0 _ _ _ _ _ _ _ _ _ _)
      | (with_reducible exact ih1 _ _ _ _ _ _ _ _ _ _)
      | (with_reducible exact ih2 _ _ _ _ _ _ _ _)
      | (with_reducible exact ih3 _ _ _ _ _ _ _ _)
      | (with_reducible exact ih4 _ _ _ _ _ _ _ _ _ _)
      | (with_reducible exact abacuslaw18_awake.mono _)
      | (with_reducible exact relate_Compare.mono _ _ _ _ _ _ _ _)
      | (with_reducible exact relate_Order.mono _ _ _ _ _ _ _)
      | (with_reducible exact LeO.refl _)
      | (with_reducible exact LeO.none _)
      | (with_reducible refine LeO.ite ?_ ?_)
      | (with_reducible refine LeO.bind ?_ (fun _ => ?_))
      | exact ih0 _ _ _ _ _ _ _ _ _ _
      | exact ih1 _ _ _ _ _ _ _ _ _ _
      | exact ih2 _ _ _ _ _ _ _ _
      | exact ih3 _ _ _ _ _ _ _ _
      | exact ih4 _ _ _ _ _ _ _ _ _ _
      | exact abacuslaw18_awake.mono _
      | exact relate_Compare.mono _ _ _ _ _ _ _ _
      | exact relate_Order.mono _ _ _ _ _ _ _
      | exact LeO.none _
      | refine LeO.ite ?_ ?_
      | refine LeO.bind ?_ (fun _ => ?_)
    · intro y0 y1 y2 y3 y4 y5 y6 y7
      unfold abacuslaw18_RelateTotal.j2
      repeat' first
      | (with_reducible exact ih0 _ _ _ _ _ _ _ _ _ _)
      | (with_reducible exact ih1 _ _ _ _ _ _ _ _ _ _)
      | (with_reducible exact ih2 _ _ _ _ _ _ _ _)
      | (with_reducible exact ih3 _ _ _ _ _ _ _ _)
      | (with_reducible exact ih4 _ _ _ _ _ _ _ _ _ _)
      | (with_reducible exact abacuslaw18_awake.mono _)
      | (with_reducible exact relate_Compare.mono _ _ _ _ _ _ _ _)
      | (with_reducible exact relate_Order.mono _ _ _ _ _ _ _)
      | (with_reducible exact LeO.refl _)
      | (with_reducible exact LeO.none _)
      | (with_reducible refine LeO.ite ?_ ?_)
      | (with_reducible refine LeO.bind ?_ (fun _ => ?_))
      | exact ih0 _ _ _ _ _ _ _ _ _ _
      | exact ih1 _ _ _ _ _ _ _ _ _ _
      | exact ih2 _ _ _ _ _ _ _ _
      | exact ih3 _ _ _ _ _ _ _ _
      | exact ih4 _ _ _ _ _ _ _ _ _ _
      | exact abacuslaw18_awake.mono _
      | exact relate_Compare.mono _ _ _ _ _ _ _ _
      | exact relate_Order.mono _ _ _ _ _ _ _
      | exact LeO.none _
      | refine LeO.ite ?_ ?_
      | refine LeO.bind ?_ (fun _ => ?_)
    · intro y0 y1 y2 y3 y4 y5 y6 y7
      unfold abacuslaw18_RelateTotal.j3
      repeat' first
      | (with_reducible exact ih0 _ _ _ _ _ _ _ _ _ _)
      | (with_reducible exact ih1 _ _ _ _ _ _ _ _ _ _)
      | (with_reducible exact ih2 _ _ _ _ _ _ _ _)
      | (with_reducible exact ih3 _ _ _ _ _ _ _ _)
      | (with_reducible exact ih4 _ _ _ _ _ _ _ _ _ _)
      | (with_reducible exact abacuslaw18_awake.mono _)
      | (with_reducible exact relate_Compare.mono _ _ _ _ _ _ _ _)
      | (with_reducible exact relate_Order.mono _ _ _ _ _ _ _)
      | (with_reducible exact LeO.refl _)
      | (with_reducible exact LeO.none _)
      | (with_reducible refine LeO.ite ?_ ?_)
      | (with_reducible refine LeO.bind ?_ (fun _ => ?_))
      | exact ih0 _ _ _ _ _ _ _ _ _ _
      | exact ih1 _ _ _ _ _ _ _ _ _ _
      | exact ih2 _ _ _ _ _ _ _ _
      | exact ih3 _ _ _ _ _ _ _ _
      | exact ih4 _ _ _ _ _ _ _ _ _ _
      | exact abacuslaw18_awake.mono _
      | exact relate_Compare.mono _ _ _ _ _ _ _ _
      | exact relate_Order.mono _ _ _ _ _ _ _
      | exact LeO.none _
      | refine LeO.ite ?_ ?_
      | refine LeO.bind ?_ (fun _ => ?_)
    · intro y0 y1 y2 y3 y4 y5 y6 y7 y8 y9
      unfold abacuslaw18_RelateTotal.j4
      repeat' first
      | (with_reducible exact ih0 _ _ _ _ _ _ _ _ _ _)
      | (with_reducible exact ih1 _ _ _ _ _ _ _ _ _ _)
      | (with_reducible exact ih2 _ _ _ _ _ _ _ _)
      | (with_reducible exact ih3 _ _ _ _ _ _ _ _)
      | (with_reducible exact ih4 _ _ _ _ _ _ _ _ _ _)
      | (with_reducible exact abacuslaw18_awake.mono _)
      | (with_reducible exact relate_Compare.mono _ _ _ _ _ _ _ _)
      | (with_reducible exact relate_Order.mono _ _ _ _ _ _ _)
      | (with_reducible exact LeO.refl _)
      | (with_reducible exact LeO.none _)
      | (with_reducible refine LeO.ite ?_ ?_)
      | (with_reducible refine LeO.bind ?_ (fun _ => ?_))
      | exact ih0 _ _ _ _ _ _ _ _ _ _
      | exact ih1 _ _ _ _ _ _ _ _ _ _
      | exact ih2 _ _ _ _ _ _ _ _
      | exact ih3 _ _ _ _ _ _ _ _
      | exact ih4 _ _ _ _ _ _ _ _ _ _
      | exact abacuslaw18_awake.mono _
      | exact relate_Compare.mono _ _ _ _ _ _ _ _
      | exact relate_Order.mono _ _ _ _ _ _ _
      | exact LeO.none _
      | refine LeO.ite ?_ ?_
      | refine LeO.bind ?_ (fun _ => ?_)
theorem abacuslaw18_RelateTotal.mono : ∀ a0 a1 a2 a3 a4 a5 a6 a7 a8 k, LeO (abacuslaw18_RelateTotal.f k a0 a1 a2 a3 a4 a5 a6 a7 a8) (abacuslaw18_RelateTotal.f (k + 1) a0 a1 a2 a3 a4 a5 a6 a7 a8) := by
  intro a0 a1 a2 a3 a4 a5 a6 a7 a8 k
  obtain ⟨ih0, ih1, ih2, ih3, ih4⟩ := abacuslaw18_RelateTotal.mono_l k
  unfold abacuslaw18_RelateTotal.f
  repeat' first
      | (with_reducible exact ih0 _ _ _ _ _ _ _ _ _ _)
      | (with_reducible exact ih1 _ _ _ _ _ _ _ _ _ _)
      | (with_reducible exact ih2 _ _ _ _ _ _ _ _)
      | (with_reducible exact ih3 _ _ _ _ _ _ _ _)
      | (with_reducible exact ih4 _ _ _ _ _ _ _ _ _ _)
      | (with_reducible exact abacuslaw18_awake.mono _)
      | (with_reducible exact relate_Compare.mono _ _ _ _ _ _ _ _)
      | (with_reducible exact relate_Order.mono _ _ _ _ _ _ _)
      | (with_reducible exact LeO.refl _)
      | (with_reducible exact LeO.none _)
      | (with_reducible refine LeO.ite ?_ ?_)
      | (with_reducible refine LeO.bind ?_ (fun _ => ?_))
      | exact ih0 _ _ _ _ _ _ _ _ _ _
      | exact ih1 _ _ _ _ _ _ _ _ _ _
      | exact ih2 _ _ _ _ _ _ _ _
      | exact ih3 _ _ _ _ _ _ _ _
      | exact ih4 _ _ _ _ _ _ _ _ _ _
      | exact abacuslaw18_awake.mono _
      | exact relate_Compare.mono _ _ _ _ _ _ _ _
      | exact relate_Order.mono _ _ _ _ _ _ _
      | exact LeO.none _
      | refine LeO.ite ?_ ?_
      | refine LeO.bind ?_ (fun _ => ?_)
set_option maxHeartbeats 8000000 in
set_option maxRecDepth 100000 in
theorem abacuslaw18_RelateTotal.calls (k : Nat) (a0_0 : Int) (a0_1 : Int) (a0_2 : ByteArray) (a1_0 : Int) (a1_1 : Int) (a1_2 : ByteArray) (a2_0 : Int) (a2_1 : Int) (a2_2 : ByteArray) (r : Bool) (w : World) (h : abacuslaw18_RelateTotal.f k a0_0 a0_1 a0_2 a1_0 a1_1 a1_2 a2_0 a2_1 a2_2 = some r) (HG : Aside0 (GW w) := by first | (with_reducible exact HG) | exact ⟨GW.below HG.out (by repeat (first | (with_reducible first | exact HB.out | apply below_alloc | apply pw_below_drewN | apply below_drew1) | (with_reducible refine below_set ?_ (Aside0.out (by assumption))) | exact HB.out | exact Below.refl _ _))⟩ | exact ⟨GW.drewN HG.out _⟩ | exact ⟨GW.drew HG.out⟩ | exact ⟨GW.drewN (GW.drewN HG.out _) _⟩ | exact ⟨GW.drewN (GW.drew HG.out) _⟩) :
    Calls Tryz.prog 4 #[.agg #[.int .i64 a0_0, .int .u64 a0_1, .string a0_2], .agg #[.int .i64 a1_0, .int .u64 a1_1, .string a1_2], .agg #[.int .i64 a2_0, .int .u64 a2_1, .string a2_2]] w fun e w' => e = .returned (.bool r) ∧ Below w.heap.size w w' := by
  have hu29 := Tryz.underlying29
  have HB := Aside0.mk (Below.refl w.heap.size w)
  have H : ((abacuslaw18_awake.f k).bind fun t263 => (if t263 = true then ((relate_Order.f k a0_0 a0_1 a0_2 a1_0 a1_1 a1_2).bind fun t264 => ((relate_Order.f k a1_0 a1_1 a1_2 a2_0 a2_1 a2_2).bind fun t265 => ((relate_Order.f k a0_0 a0_1 a0_2 a2_0 a2_1 a2_2).bind fun t266 => (if t264 < (-1) then (abacuslaw18_RelateTotal.j0 k t264 t265 t266 true a0_0 a0_1 a0_2 a1_0 a1_1 a1_2) else (if t264 > 1 then (abacuslaw18_RelateTotal.j0 k t264 t265 t266 true a0_0 a0_1 a0_2 a1_0 a1_1 a1_2) else ((relate_Order.f k a1_0 a1_1 a1_2 a0_0 a0_1 a0_2).bind fun t267 => (if t267 = (wrap64 (-t264)) then ((relate_Order.f k a0_0 a0_1 a0_2 a0_0 a0_1 a0_2).bind fun t268 => (abacuslaw18_RelateTotal.j0 k t264 t265 t266 (t268 != 0) a0_0 a0_1 a0_2 a1_0 a1_1 a1_2)) else (abacuslaw18_RelateTotal.j0 k t264 t265 t266 true a0_0 a0_1 a0_2 a1_0 a1_1 a1_2)))))))) else (some false))) = some r := h
  clear h
  replace H := Option.bind_eq_some_iff.mp H
  obtain ⟨t263, A40, H⟩ := H
  replace H : (if t263 = true then ((relate_Order.f k a0_0 a0_1 a0_2 a1_0 a1_1 a1_2).bind fun t264 => ((relate_Order.f k a1_0 a1_1 a1_2 a2_0 a2_1 a2_2).bind fun t265 => ((relate_Order.f k a0_0 a0_1 a0_2 a2_0 a2_1 a2_2).bind fun t266 => (if t264 < (-1) then (abacuslaw18_RelateTotal.j0 k t264 t265 t266 true a0_0 a0_1 a0_2 a1_0 a1_1 a1_2) else (if t264 > 1 then (abacuslaw18_RelateTotal.j0 k t264 t265 t266 true a0_0 a0_1 a0_2 a1_0 a1_1 a1_2) else ((relate_Order.f k a1_0 a1_1 a1_2 a0_0 a0_1 a0_2).bind fun t267 => (if t267 = (wrap64 (-t264)) then ((relate_Order.f k a0_0 a0_1 a0_2 a0_0 a0_1 a0_2).bind fun t268 => (abacuslaw18_RelateTotal.j0 k t264 t265 t266 (t268 != 0) a0_0 a0_1 a0_2 a1_0 a1_1 a1_2)) else (abacuslaw18_RelateTotal.j0 k t264 t265 t266 true a0_0 a0_1 a0_2 a1_0 a1_1 a1_2)))))))) else (some false)) = some r := H
  have A4 := Aside0.mk A40
  clear A40
  by_cases c5 : t263 = true
  · subst c5
    have H1 : ((relate_Order.f k a0_0 a0_1 a0_2 a1_0 a1_1 a1_2).bind fun t264 => ((relate_Order.f k a1_0 a1_1 a1_2 a2_0 a2_1 a2_2).bind fun t265 => ((relate_Order.f k a0_0 a0_1 a0_2 a2_0 a2_1 a2_2).bind fun t266 => (if t264 < (-1) then (abacuslaw18_RelateTotal.j0 k t264 t265 t266 true a0_0 a0_1 a0_2 a1_0 a1_1 a1_2) else (if t264 > 1 then (abacuslaw18_RelateTotal.j0 k t264 t265 t266 true a0_0 a0_1 a0_2 a1_0 a1_1 a1_2) else ((relate_Order.f k a1_0 a1_1 a1_2 a0_0 a0_1 a0_2).bind fun t267 => (if t267 = (wrap64 (-t264)) then ((relate_Order.f k a0_0 a0_1 a0_2 a0_0 a0_1 a0_2).bind fun t268 => (abacuslaw18_RelateTotal.j0 k t264 t265 t266 (t268 != 0) a0_0 a0_1 a0_2 a1_0 a1_1 a1_2)) else (abacuslaw18_RelateTotal.j0 k t264 t265 t266 true a0_0 a0_1 a0_2 a1_0 a1_1 a1_2)))))))) = some r := by rw [if_pos rfl] at H; exact H
    clear H
    have H := H1
    clear H1
    replace H := Option.bind_eq_some_iff.mp H
    obtain ⟨t264, A60, H⟩ := H
    replace H : ((relate_Order.f k a1_0 a1_1 a1_2 a2_0 a2_1 a2_2).bind fun t265 => ((relate_Order.f k a0_0 a0_1 a0_2 a2_0 a2_1 a2_2).bind fun t266 => (if t264 < (-1) then (abacuslaw18_RelateTotal.j0 k t264 t265 t266 true a0_0 a0_1 a0_2 a1_0 a1_1 a1_2) else (if t264 > 1 then (abacuslaw18_RelateTotal.j0 k t264 t265 t266 true a0_0 a0_1 a0_2 a1_0 a1_1 a1_2) else ((relate_Order.f k a1_0 a1_1 a1_2 a0_0 a0_1 a0_2).bind fun t267 => (if t267 = (wrap64 (-t264)) then ((relate_Order.f k a0_0 a0_1 a0_2 a0_0 a0_1 a0_2).bind fun t268 => (abacuslaw18_RelateTotal.j0 k t264 t265 t266 (t268 != 0) a0_0 a0_1 a0_2 a1_0 a1_1 a1_2)) else (abacuslaw18_RelateTotal.j0 k t264 t265 t266 true a0_0 a0_1 a0_2 a1_0 a1_1 a1_2))))))) = some r := H
    have A6 := Aside0.mk A60
    clear A60
    replace H := Option.bind_eq_some_iff.mp H
    obtain ⟨t265, A70, H⟩ := H
    replace H : ((relate_Order.f k a0_0 a0_1 a0_2 a2_0 a2_1 a2_2).bind fun t266 => (if t264 < (-1) then (abacuslaw18_RelateTotal.j0 k t264 t265 t266 true a0_0 a0_1 a0_2 a1_0 a1_1 a1_2) else (if t264 > 1 then (abacuslaw18_RelateTotal.j0 k t264 t265 t266 true a0_0 a0_1 a0_2 a1_0 a1_1 a1_2) else ((relate_Order.f k a1_0 a1_1 a1_2 a0_0 a0_1 a0_2).bind fun t267 => (if t267 = (wrap64 (-t264)) then ((relate_Order.f k a0_0 a0_1 a0_2 a0_0 a0_1 a0_2).bind fun t268 => (abacuslaw18_RelateTotal.j0 k t264 t265 t266 (t268 != 0) a0_0 a0_1 a0_2 a1_0 a1_1 a1_2)) else (abacuslaw18_RelateTotal.j0 k t264 t265 t266 true a0_0 a0_1 a0_2 a1_0 a1_1 a1_2)))))) = some r := H
    have A7 := Aside0.mk A70
    clear A70
    replace H := Option.bind_eq_some_iff.mp H
    obtain ⟨t266, A80, H⟩ := H
    replace H : (if t264 < (-1) then (abacuslaw18_RelateTotal.j0 k t264 t265 t266 true a0_0 a0_1 a0_2 a1_0 a1_1 a1_2) else (if t264 > 1 then (abacuslaw18_RelateTotal.j0 k t264 t265 t266 true a0_0 a0_1 a0_2 a1_0 a1_1 a1_2) else ((relate_Order.f k a1_0 a1_1 a1_2 a0_0 a0_1 a0_2).bind fun t267 => (if t267 = (wrap64 (-t264)) then ((relate_Order.f k a0_0 a0_1 a0_2 a0_0 a0_1 a0_2).bind fun t268 => (abacuslaw18_RelateTotal.j0 k t264 t265 t266 (t268 != 0) a0_0 a0_1 a0_2 a1_0 a1_1 a1_2)) else (abacuslaw18_RelateTotal.j0 k t264 t265 t266 true a0_0 a0_1 a0_2 a1_0 a1_1 a1_2))))) = some r := H
    have A8 := Aside0.mk A80
    clear A80
    have HC9 := Aside0.mk H
    clear H
    go_enter Tryz.func4, Tryz.ntmps4
    go_upto_region 7 with (first | ((with_reducible refine gate_dst (N := 3) rfl ?_); refine box_event ?hg (N := 3) ?hd (cs := #[.int .i64 a0_0, .int .u64 a0_1, .string a0_2]) (t := 29) ?hr ?_; (case hd => rfl); (case hg => rfl); (case hr => first | (go_simp; done) | (go_simp; rfl)); intro gb260 hg w10 hbox hb; have n0_ := Aside0.mk (below_step (by repeat (first | (with_reducible first | exact HB.out | apply below_alloc | apply pw_below_drewN | apply below_drew1) | exact HB.out)) hb); have n1_ := Aside0.mk (hbox); have n2_ := Aside0.mk ((by rw [hg]; exact (below_size (by repeat (first | (with_reducible first | exact HB.out | apply below_alloc | apply pw_below_drewN | apply below_drew1) | exact HB.out))) : w.heap.size ≤ gb260)); have n3_ := Aside0.mk ((by rw [hg]; exact (below_size (by repeat (first | (with_reducible first | exact HB.out | apply below_alloc | apply pw_below_drewN | apply below_drew1) | exact HB.out))) : w.heap.size ≤ gb260)); clear HB; have HB := n0_; have BK260 := n1_; have GW260 := n2_; have GE260 := n3_; clear n0_ n1_ n2_ n3_; clear hb hbox hg) | ((with_reducible refine gate_dst (N := 4) rfl ?_); refine box_event ?hg (N := 4) ?hd (cs := #[.int .i64 a1_0, .int .u64 a1_1, .string a1_2]) (t := 29) ?hr ?_; (case hd => rfl); (case hg => rfl); (case hr => first | (go_simp; done) | (go_simp; rfl)); intro gb261 hg w11 hbox hb; have n0_ := Aside0.mk (blk_below (g := gb260) (o := .cells #[.int .i64 a0_0, .int .u64 a0_1, .string a0_2] 29 (0, 0)) (by (with_reducible repeat (first | refine blk_drewN ?_ _ | refine blk_drew ?_ | refine blk_alloc ?_ _)); exact BK260.out) hb); have n1_ := Aside0.mk (below_step (by repeat (first | (with_reducible first | exact HB.out | apply below_alloc | apply pw_below_drewN | apply below_drew1 | refine below_set ?_ GE260.out) | exact HB.out)) hb); have n2_ := Aside0.mk (hbox); have n3_ := Aside0.mk ((by rw [hg]; exact (below_size (by repeat (first | (with_reducible first | exact HB.out | apply below_alloc | apply pw_below_drewN | apply below_drew1 | refine below_set ?_ GE260.out) | exact HB.out))) : w.heap.size ≤ gb261)); have n4_ := Aside0.mk ((by rw [hg]; exact (below_size (by repeat (first | (with_reducible first | exact HB.out | apply below_alloc | apply pw_below_drewN | apply below_drew1 | refine below_set ?_ GE260.out) | exact HB.out))) : w.heap.size ≤ gb261)); have n5_ := Aside0.mk ((by rw [hg]; exact Nat.ne_of_lt (blk_lt (g := gb260) (o := .cells #[.int .i64 a0_0, .int .u64 a0_1, .string a0_2] 29 (0, 0)) (by (with_reducible repeat (first | refine blk_drewN ?_ _ | refine blk_drew ?_ | refine blk_alloc ?_ _)); exact BK260.out)) : gb260 ≠ gb261)); have n6_ := Aside0.mk ((by rw [hg]; exact Nat.ne_of_gt (blk_lt (g := gb260) (o := .cells #[.int .i64 a0_0, .int .u64 a0_1, .string a0_2] 29 (0, 0)) (by (with_reducible repeat (first | refine blk_drewN ?_ _ | refine blk_drew ?_ | refine blk_alloc ?_ _)); exact BK260.out)) : gb261 ≠ gb260)); clear BK260; clear HB; have BK260 := n0_; have HB := n1_; have BK261 := n2_; have GW261 := n3_; have GE261 := n4_; have NB260_261 := n5_; have NB261_260 := n6_; clear n0_ n1_ n2_ n3_ n4_ n5_ n6_; clear hb hbox hg) | ((with_reducible refine gate_dst (N := 5) rfl ?_); refine box_event ?hg (N := 5) ?hd (cs := #[.int .i64 a2_0, .int .u64 a2_1, .string a2_2]) (t := 29) ?hr ?_; (case hd => rfl); (case hg => rfl); (case hr => first | (go_simp; done) | (go_simp; rfl)); intro gb262 hg w12 hbox hb; have n0_ := Aside0.mk (blk_below (g := gb260) (o := .cells #[.int .i64 a0_0, .int .u64 a0_1, .string a0_2] 29 (0, 0)) (by (with_reducible repeat (first | refine blk_drewN ?_ _ | refine blk_drew ?_ | refine blk_alloc ?_ _)); exact BK260.out) hb); have n1_ := Aside0.mk (blk_below (g := gb261) (o := .cells #[.int .i64 a1_0, .int .u64 a1_1, .string a1_2] 29 (0, 0)) (by (with_reducible repeat (first | refine blk_drewN ?_ _ | refine blk_drew ?_ | refine blk_alloc ?_ _)); exact BK261.out) hb); have n2_ := Aside0.mk (below_step (by repeat (first | (with_reducible first | exact HB.out | apply below_alloc | apply pw_below_drewN | apply below_drew1 | refine below_set ?_ GE260.out | refine below_set ?_ GE261.out) | exact HB.out)) hb); have n3_ := Aside0.mk (hbox); have n4_ := Aside0.mk ((by rw [hg]; exact (below_size (by repeat (first | (with_reducible first | exact HB.out | apply below_alloc | apply pw_below_drewN | apply below_drew1 | refine below_set ?_ GE260.out | refine below_set ?_ GE261.out) | exact HB.out))) : w.heap.size ≤ gb262)); have n5_ := Aside0.mk ((by rw [hg]; exact (below_size (by repeat (first | (with_reducible first | exact HB.out | apply below_alloc | apply pw_below_drewN | apply below_drew1 | refine below_set ?_ GE260.out | refine below_set ?_ GE261.out) | exact HB.out))) : w.heap.size ≤ gb262)); have n6_ := Aside0.mk ((by rw [hg]; exact Nat.ne_of_lt (blk_lt (g := gb260) (o := .cells #[.int .i64 a0_0, .int .u64 a0_1, .string a0_2] 29 (0, 0)) (by (with_reducible repeat (first | refine blk_drewN ?_ _ | refine blk_drew ?_ | refine blk_alloc ?_ _)); exact BK260.out)) : gb260 ≠ gb262)); have n7_ := Aside0.mk ((by rw [hg]; exact Nat.ne_of_gt (blk_lt (g := gb260) (o := .cells #[.int .i64 a0_0, .int .u64 a0_1, .string a0_2] 29 (0, 0)) (by (with_reducible repeat (first | refine blk_drewN ?_ _ | refine blk_drew ?_ | refine blk_alloc ?_ _)); exact BK260.out)) : gb262 ≠ gb260)); have n8_ := Aside0.mk ((by rw [hg]; exact Nat.ne_of_lt (blk_lt (g := gb261) (o := .cells #[.int .i64 a1_0, .int .u64 a1_1, .string a1_2] 29 (0, 0)) (by (with_reducible repeat (first | refine blk_drewN ?_ _ | refine blk_drew ?_ | refine blk_alloc ?_ _)); exact BK261.out)) : gb261 ≠ gb262)); have n9_ := Aside0.mk ((by rw [hg]; exact Nat.ne_of_gt (blk_lt (g := gb261) (o := .cells #[.int .i64 a1_0, .int .u64 a1_1, .string a1_2] 29 (0, 0)) (by (with_reducible repeat (first | refine blk_drewN ?_ _ | refine blk_drew ?_ | refine blk_alloc ?_ _)); exact BK261.out)) : gb262 ≠ gb261)); clear BK260; clear BK261; clear HB; have BK260 := n0_; have BK261 := n1_; have HB := n2_; have BK262 := n3_; have GW262 := n4_; have GE262 := n5_; have NB260_262 := n6_; have NB262_260 := n7_; have NB261_262 := n8_; have NB262_261 := n9_; clear n0_ n1_ n2_ n3_ n4_ n5_ n6_ n7_ n8_ n9_; clear hb hbox hg) | ((with_reducible refine gate_callee (f := 15) rfl ?_); refine goesL_ (some 14) rfl rfl Tryz.func15 (by kernel_rfl) rfl #[] rfl (by (try simp only [List.map_toArray, List.map_cons, List.map_nil]); first | done | rfl | (simp only [List.length_drop, List.length_take]; rfl)) ?_; (with_reducible refine (abacuslaw18_awake.calls k  true _ A4.out).mono ?_); rintro e w13 ⟨rfl, hb⟩; refine ⟨_, rfl, ?_⟩; have n0_ := Aside0.mk (blk_below (g := gb260) (o := .cells #[.int .i64 a0_0, .int .u64 a0_1, .string a0_2] 29 (0, 0)) (by (with_reducible repeat (first | refine blk_drewN ?_ _ | refine blk_drew ?_ | refine blk_alloc ?_ _)); exact BK260.out) hb); have n1_ := Aside0.mk (blk_below (g := gb261) (o := .cells #[.int .i64 a1_0, .int .u64 a1_1, .string a1_2] 29 (0, 0)) (by (with_reducible repeat (first | refine blk_drewN ?_ _ | refine blk_drew ?_ | refine blk_alloc ?_ _)); exact BK261.out) hb); have n2_ := Aside0.mk (blk_below (g := gb262) (o := .cells #[.int .i64 a2_0, .int .u64 a2_1, .string a2_2] 29 (0, 0)) (by (with_reducible repeat (first | refine blk_drewN ?_ _ | refine blk_drew ?_ | refine blk_alloc ?_ _)); exact BK262.out) hb); have n3_ := Aside0.mk (below_step (by repeat (first | (with_reducible first | exact HB.out | apply below_alloc | apply pw_below_drewN | apply below_drew1 | refine below_set ?_ GE260.out | refine below_set ?_ GE261.out | refine below_set ?_ GE262.out) | exact HB.out)) hb); clear BK260; clear BK261; clear BK262; clear HB; have BK260 := n0_; have BK261 := n1_; have BK262 := n2_; have HB := n3_; clear n0_ n1_ n2_ n3_; (try clear hb); (try clear hb2); (try clear hk); (try clear hi); have hnb14 := NB260_261.out; have hnc14 := NB261_260.out; have hnb15 := NB260_262.out; have hnc15 := NB262_260.out; have hcz16_0 : w13.cell? ⟨gb260, 0, none⟩ = some (.int .i64 a0_0) := (blk_cell BK260.out 0).trans rfl; have hcz16_1 : w13.cell? ⟨gb260, 1, none⟩ = some (.int .u64 a0_1) := (blk_cell BK260.out 1).trans rfl; have hcz16_2 : w13.cell? ⟨gb260, 2, none⟩ = some (.string a0_2) := (blk_cell BK260.out 2).trans rfl; have hfz16_0 := blk_frozen BK260.out 0; have hfz16_1 := blk_frozen BK260.out 1; have hfz16_2 := blk_frozen BK260.out 2; have hnb17 := NB261_262.out; have hnc17 := NB262_261.out; have hcz18_0 : w13.cell? ⟨gb261, 0, none⟩ = some (.int .i64 a1_0) := (blk_cell BK261.out 0).trans rfl; have hcz18_1 : w13.cell? ⟨gb261, 1, none⟩ = some (.int .u64 a1_1) := (blk_cell BK261.out 1).trans rfl; have hcz18_2 : w13.cell? ⟨gb261, 2, none⟩ = some (.string a1_2) := (blk_cell BK261.out 2).trans rfl; have hfz18_0 := blk_frozen BK261.out 0; have hfz18_1 := blk_frozen BK261.out 1; have hfz18_2 := blk_frozen BK261.out 2) | ((with_reducible refine gate_callee (f := 19) rfl ?_); refine goesL_ (some 19) rfl rfl Tryz.func19 (by kernel_rfl) rfl #[.agg #[.int .i64 a0_0, .int .u64 a0_1, .string a0_2], .agg #[.int .i64 a1_0, .int .u64 a1_1, .string a1_2]] rfl (by (try simp only [List.map_toArray, List.map_cons, List.map_nil]); first | done | rfl | (simp only [List.length_drop, List.length_take]; rfl)) ?_; (with_reducible refine (relate_Order.calls k a0_0 a0_1 a0_2 a1_0 a1_1 a1_2 t264 _ A6.out).mono ?_); rintro e w19 ⟨rfl, hb⟩; refine ⟨_, rfl, ?_⟩; have n0_ := Aside0.mk (blk_below (g := gb260) (o := .cells #[.int .i64 a0_0, .int .u64 a0_1, .string a0_2] 29 (0, 0)) (by (with_reducible repeat (first | refine blk_drewN ?_ _ | refine blk_drew ?_ | refine blk_alloc ?_ _)); exact BK260.out) hb); have n1_ := Aside0.mk (blk_below (g := gb261) (o := .cells #[.int .i64 a1_0, .int .u64 a1_1, .string a1_2] 29 (0, 0)) (by (with_reducible repeat (first | refine blk_drewN ?_ _ | refine blk_drew ?_ | refine blk_alloc ?_ _)); exact BK261.out) hb); have n2_ := Aside0.mk (blk_below (g := gb262) (o := .cells #[.int .i64 a2_0, .int .u64 a2_1, .string a2_2] 29 (0, 0)) (by (with_reducible repeat (first | refine blk_drewN ?_ _ | refine blk_drew ?_ | refine blk_alloc ?_ _)); exact BK262.out) hb); have n3_ := Aside0.mk (below_step (by repeat (first | (with_reducible first | exact HB.out | apply below_alloc | apply pw_below_drewN | apply below_drew1 | refine below_set ?_ GE260.out | refine below_set ?_ GE261.out | refine below_set ?_ GE262.out) | exact HB.out)) hb); clear BK260; clear BK261; clear BK262; clear HB; have BK260 := n0_; have BK261 := n1_; have BK262 := n2_; have HB := n3_; clear n0_ n1_ n2_ n3_; (try clear hb); (try clear hb2); (try clear hk); (try clear hi); have hcz20_0 : w19.cell? ⟨gb261, 0, none⟩ = some (.int .i64 a1_0) := (blk_cell BK261.out 0).trans rfl; have hcz20_1 : w19.cell? ⟨gb261, 1, none⟩ = some (.int .u64 a1_1) := (blk_cell BK261.out 1).trans rfl; have hcz20_2 : w19.cell? ⟨gb261, 2, none⟩ = some (.string a1_2) := (blk_cell BK261.out 2).trans rfl; have hfz20_0 := blk_frozen BK261.out 0; have hfz20_1 := blk_frozen BK261.out 1; have hfz20_2 := blk_frozen BK261.out 2; have hcz21_0 : w19.cell? ⟨gb262, 0, none⟩ = some (.int .i64 a2_0) := (blk_cell BK262.out 0).trans rfl; have hcz21_1 : w19.cell? ⟨gb262, 1, none⟩ = some (.int .u64 a2_1) := (blk_cell BK262.out 1).trans rfl; have hcz21_2 : w19.cell? ⟨gb262, 2, none⟩ = some (.string a2_2) := (blk_cell BK262.out 2).trans rfl; have hfz21_0 := blk_frozen BK262.out 0; have hfz21_1 := blk_frozen BK262.out 1; have hfz21_2 := blk_frozen BK262.out 2) | ((with_reducible refine gate_callee (f := 19) rfl ?_); refine goesL_ (some 22) rfl rfl Tryz.func19 (by kernel_rfl) rfl #[.agg #[.int .i64 a1_0, .int .u64 a1_1, .string a1_2], .agg #[.int .i64 a2_0, .int .u64 a2_1, .string a2_2]] rfl (by (try simp only [List.map_toArray, List.map_cons, List.map_nil]); first | done | rfl | (simp only [List.length_drop, List.length_take]; rfl)) ?_; (with_reducible refine (relate_Order.calls k a1_0 a1_1 a1_2 a2_0 a2_1 a2_2 t265 _ A7.out).mono ?_); rintro e w22 ⟨rfl, hb⟩; refine ⟨_, rfl, ?_⟩; have n0_ := Aside0.mk (blk_below (g := gb260) (o := .cells #[.int .i64 a0_0, .int .u64 a0_1, .string a0_2] 29 (0, 0)) (by (with_reducible repeat (first | refine blk_drewN ?_ _ | refine blk_drew ?_ | refine blk_alloc ?_ _)); exact BK260.out) hb); have n1_ := Aside0.mk (blk_below (g := gb261) (o := .cells #[.int .i64 a1_0, .int .u64 a1_1, .string a1_2] 29 (0, 0)) (by (with_reducible repeat (first | refine blk_drewN ?_ _ | refine blk_drew ?_ | refine blk_alloc ?_ _)); exact BK261.out) hb); have n2_ := Aside0.mk (blk_below (g := gb262) (o := .cells #[.int .i64 a2_0, .int .u64 a2_1, .string a2_2] 29 (0, 0)) (by (with_reducible repeat (first | refine blk_drewN ?_ _ | refine blk_drew ?_ | refine blk_alloc ?_ _)); exact BK262.out) hb); have n3_ := Aside0.mk (below_step (by repeat (first | (with_reducible first | exact HB.out | apply below_alloc | apply pw_below_drewN | apply below_drew1 | refine below_set ?_ GE260.out | refine below_set ?_ GE261.out | refine below_set ?_ GE262.out) | exact HB.out)) hb); clear BK260; clear BK261; clear BK262; clear HB; have BK260 := n0_; have BK261 := n1_; have BK262 := n2_; have HB := n3_; clear n0_ n1_ n2_ n3_; (try clear hb); (try clear hb2); (try clear hk); (try clear hi); have hcz23_0 : w22.cell? ⟨gb260, 0, none⟩ = some (.int .i64 a0_0) := (blk_cell BK260.out 0).trans rfl; have hcz23_1 : w22.cell? ⟨gb260, 1, none⟩ = some (.int .u64 a0_1) := (blk_cell BK260.out 1).trans rfl; have hcz23_2 : w22.cell? ⟨gb260, 2, none⟩ = some (.string a0_2) := (blk_cell BK260.out 2).trans rfl; have hfz23_0 := blk_frozen BK260.out 0; have hfz23_1 := blk_frozen BK260.out 1; have hfz23_2 := blk_frozen BK260.out 2; have hcz24_0 : w22.cell? ⟨gb262, 0, none⟩ = some (.int .i64 a2_0) := (blk_cell BK262.out 0).trans rfl; have hcz24_1 : w22.cell? ⟨gb262, 1, none⟩ = some (.int .u64 a2_1) := (blk_cell BK262.out 1).trans rfl; have hcz24_2 : w22.cell? ⟨gb262, 2, none⟩ = some (.string a2_2) := (blk_cell BK262.out 2).trans rfl; have hfz24_0 := blk_frozen BK262.out 0; have hfz24_1 := blk_frozen BK262.out 1; have hfz24_2 := blk_frozen BK262.out 2) | ((with_reducible refine gate_callee (f := 19) rfl ?_); refine goesL_ (some 25) rfl rfl Tryz.func19 (by kernel_rfl) rfl #[.agg #[.int .i64 a0_0, .int .u64 a0_1, .string a0_2], .agg #[.int .i64 a2_0, .int .u64 a2_1, .string a2_2]] rfl (by (try simp only [List.map_toArray, List.map_cons, List.map_nil]); first | done | rfl | (simp only [List.length_drop, List.length_take]; rfl)) ?_; (with_reducible refine (relate_Order.calls k a0_0 a0_1 a0_2 a2_0 a2_1 a2_2 t266 _ A8.out).mono ?_); rintro e w25 ⟨rfl, hb⟩; refine ⟨_, rfl, ?_⟩; have n0_ := Aside0.mk (blk_below (g := gb260) (o := .cells #[.int .i64 a0_0, .int .u64 a0_1, .string a0_2] 29 (0, 0)) (by (with_reducible repeat (first | refine blk_drewN ?_ _ | refine blk_drew ?_ | refine blk_alloc ?_ _)); exact BK260.out) hb); have n1_ := Aside0.mk (blk_below (g := gb261) (o := .cells #[.int .i64 a1_0, .int .u64 a1_1, .string a1_2] 29 (0, 0)) (by (with_reducible repeat (first | refine blk_drewN ?_ _ | refine blk_drew ?_ | refine blk_alloc ?_ _)); exact BK261.out) hb); have n2_ := Aside0.mk (blk_below (g := gb262) (o := .cells #[.int .i64 a2_0, .int .u64 a2_1, .string a2_2] 29 (0, 0)) (by (with_reducible repeat (first | refine blk_drewN ?_ _ | refine blk_drew ?_ | refine blk_alloc ?_ _)); exact BK262.out) hb); have n3_ := Aside0.mk (below_step (by repeat (first | (with_reducible first | exact HB.out | apply below_alloc | apply pw_below_drewN | apply below_drew1 | refine below_set ?_ GE260.out | refine below_set ?_ GE261.out | refine below_set ?_ GE262.out) | exact HB.out)) hb); clear BK260; clear BK261; clear BK262; clear HB; have BK260 := n0_; have BK261 := n1_; have BK262 := n2_; have HB := n3_; clear n0_ n1_ n2_ n3_; (try clear hb); (try clear hb2); (try clear hk); (try clear hi)))
    (try simp only [Act.put, List.setIfInBounds_toArray, List.set_cons_zero, List.set_cons_succ])
    go_cut [45] (fun v45 wc => ∃ (kq : Nat) (x45_8 : Bool), v45 = .bool x45_8 ∧ Aside0 (abacuslaw18_RelateTotal.j0 kq t264 t265 t266 x45_8 a0_0 a0_1 a0_2 a1_0 a1_1 a1_2 = some r) ∧ Aside0 (kq ≤ k) ∧ Aside0 (wc.heap[gb260]? = some (.cells #[.int .i64 a0_0, .int .u64 a0_1, .string a0_2] 29 (0, 0))) ∧ Aside0 (wc.heap[gb261]? = some (.cells #[.int .i64 a1_0, .int .u64 a1_1, .string a1_2] 29 (0, 0))) ∧ Aside0 (wc.heap[gb262]? = some (.cells #[.int .i64 a2_0, .int .u64 a2_1, .string a2_2] 29 (0, 0))) ∧ Aside0 (Below w.heap.size w wc))
    case first =>
      have H := HC9.out
      clear HC9
      by_cases c26 : t264 < (-1)
      · rw [if_pos c26] at H
        have c26b0 : decide (t264 < (-1)) = true := decide_eq_true c26
        clear c26
        (first | rw [c26b0] | (simp only [i64_w, i32_w]; rw [c26b0]) | skip)
        have H' := Aside0.mk H
        clear H
        go_wp2
        go_meet
        case rel => exact ⟨_, (true), (by first | rfl | (simp; done) | (simp [*]; done)), H', ⟨by first | omega | exact Nat.le_refl _⟩, ⟨by (with_reducible repeat (first | refine blk_drewN ?_ _ | refine blk_drew ?_ | refine blk_alloc ?_ _)); exact BK260.out⟩, ⟨by (with_reducible repeat (first | refine blk_drewN ?_ _ | refine blk_drew ?_ | refine blk_alloc ?_ _)); exact BK261.out⟩, ⟨by (with_reducible repeat (first | refine blk_drewN ?_ _ | refine blk_drew ?_ | refine blk_alloc ?_ _)); exact BK262.out⟩, ⟨by repeat (first | (with_reducible first | exact HB.out | apply below_alloc | apply pw_below_drewN | apply below_drew1 | refine below_set ?_ GE260.out | refine below_set ?_ GE261.out | refine below_set ?_ GE262.out) | exact HB.out)⟩⟩
      · rw [if_neg c26] at H
        have c26b0 : decide (t264 < (-1)) = false := decide_eq_false c26
        clear c26
        (first | rw [c26b0] | (simp only [i64_w, i32_w]; rw [c26b0]) | skip)
        by_cases c27 : t264 > 1
        · rw [if_pos c27] at H
          have c27b0 : decide (1 < t264) = true := decide_eq_true c27
          clear c27
          have H' := Aside0.mk H
          clear H
          go_wp2
          go_meet
          case rel => exact ⟨_, (true), (by first | rfl | (simp; done) | (simp [*]; done)), H', ⟨by first | omega | exact Nat.le_refl _⟩, ⟨by (with_reducible repeat (first | refine blk_drewN ?_ _ | refine blk_drew ?_ | refine blk_alloc ?_ _)); exact BK260.out⟩, ⟨by (with_reducible repeat (first | refine blk_drewN ?_ _ | refine blk_drew ?_ | refine blk_alloc ?_ _)); exact BK261.out⟩, ⟨by (with_reducible repeat (first | refine blk_drewN ?_ _ | refine blk_drew ?_ | refine blk_alloc ?_ _)); exact BK262.out⟩, ⟨by repeat (first | (with_reducible first | exact HB.out | apply below_alloc | apply pw_below_drewN | apply below_drew1 | refine below_set ?_ GE260.out | refine below_set ?_ GE261.out | refine below_set ?_ GE262.out) | exact HB.out)⟩⟩
        · rw [if_neg c27] at H
          have c27b0 : decide (1 < t264) = false := decide_eq_false c27
          clear c27
          replace H := Option.bind_eq_some_iff.mp H
          obtain ⟨t267, A280, H⟩ := H
          replace H : (if t267 = (wrap64 (-t264)) then ((relate_Order.f k a0_0 a0_1 a0_2 a0_0 a0_1 a0_2).bind fun t268 => (abacuslaw18_RelateTotal.j0 k t264 t265 t266 (t268 != 0) a0_0 a0_1 a0_2 a1_0 a1_1 a1_2)) else (abacuslaw18_RelateTotal.j0 k t264 t265 t266 true a0_0 a0_1 a0_2 a1_0 a1_1 a1_2)) = some r := H
          have A28 := Aside0.mk A280
          clear A280
          by_cases c29 : t267 = (wrap64 (-t264))
          · rw [if_pos c29] at H
            have c29b0 : (t267 == (wrap64 (-t264))) = true := beq_iff_eq.mpr c29
            have c29b1 : (t267 != (wrap64 (-t264))) = false := bne_eq_false_iff_eq.mpr c29
            clear c29
            replace H := Option.bind_eq_some_iff.mp H
            obtain ⟨t268, A300, H⟩ := H
            replace H : (abacuslaw18_RelateTotal.j0 k t264 t265 t266 (t268 != 0) a0_0 a0_1 a0_2 a1_0 a1_1 a1_2) = some r := H
            have A30 := Aside0.mk A300
            clear A300
            have H' := Aside0.mk H
            clear H
            have hnb31 := NB261_260.out
            have hnc31 := NB260_261.out
            have hnb32 := NB261_262.out
            have hnc32 := NB262_261.out
            have hcz33_0 : w25.cell? ⟨gb261, 0, none⟩ = some (.int .i64 a1_0) := (blk_cell BK261.out 0).trans rfl
            have hcz33_1 : w25.cell? ⟨gb261, 1, none⟩ = some (.int .u64 a1_1) := (blk_cell BK261.out 1).trans rfl
            have hcz33_2 : w25.cell? ⟨gb261, 2, none⟩ = some (.string a1_2) := (blk_cell BK261.out 2).trans rfl
            have hfz33_0 := blk_frozen BK261.out 0
            have hfz33_1 := blk_frozen BK261.out 1
            have hfz33_2 := blk_frozen BK261.out 2
            have hnb34 := NB260_262.out
            have hnc34 := NB262_260.out
            have hcz35_0 : w25.cell? ⟨gb260, 0, none⟩ = some (.int .i64 a0_0) := (blk_cell BK260.out 0).trans rfl
            have hcz35_1 : w25.cell? ⟨gb260, 1, none⟩ = some (.int .u64 a0_1) := (blk_cell BK260.out 1).trans rfl
            have hcz35_2 : w25.cell? ⟨gb260, 2, none⟩ = some (.string a0_2) := (blk_cell BK260.out 2).trans rfl
            have hfz35_0 := blk_frozen BK260.out 0
            have hfz35_1 := blk_frozen BK260.out 1
            have hfz35_2 := blk_frozen BK260.out 2
            go_wp2_with (first | (go_at_call 19; (with_reducible refine (relate_Order.calls k a1_0 a1_1 a1_2 a0_0 a0_1 a0_2 t267 _ A28.out).mono ?_); rintro e w36 ⟨rfl, hb⟩; have n0_ := Aside0.mk (blk_below (g := gb260) (o := .cells #[.int .i64 a0_0, .int .u64 a0_1, .string a0_2] 29 (0, 0)) (by (with_reducible repeat (first | refine blk_drewN ?_ _ | refine blk_drew ?_ | refine blk_alloc ?_ _)); exact BK260.out) hb); have n1_ := Aside0.mk (blk_below (g := gb261) (o := .cells #[.int .i64 a1_0, .int .u64 a1_1, .string a1_2] 29 (0, 0)) (by (with_reducible repeat (first | refine blk_drewN ?_ _ | refine blk_drew ?_ | refine blk_alloc ?_ _)); exact BK261.out) hb); have n2_ := Aside0.mk (blk_below (g := gb262) (o := .cells #[.int .i64 a2_0, .int .u64 a2_1, .string a2_2] 29 (0, 0)) (by (with_reducible repeat (first | refine blk_drewN ?_ _ | refine blk_drew ?_ | refine blk_alloc ?_ _)); exact BK262.out) hb); have n3_ := Aside0.mk (below_step (by repeat (first | (with_reducible first | exact HB.out | apply below_alloc | apply pw_below_drewN | apply below_drew1 | refine below_set ?_ GE260.out | refine below_set ?_ GE261.out | refine below_set ?_ GE262.out) | exact HB.out)) hb); clear BK260; clear BK261; clear BK262; clear HB; have BK260 := n0_; have BK261 := n1_; have BK262 := n2_; have HB := n3_; clear n0_ n1_ n2_ n3_; (try clear hb); (try clear hb2); (try clear hk); (try clear hi); have hcz37_0 : w36.cell? ⟨gb260, 0, none⟩ = some (.int .i64 a0_0) := (blk_cell BK260.out 0).trans rfl; have hcz37_1 : w36.cell? ⟨gb260, 1, none⟩ = some (.int .u64 a0_1) := (blk_cell BK260.out 1).trans rfl; have hcz37_2 : w36.cell? ⟨gb260, 2, none⟩ = some (.string a0_2) := (blk_cell BK260.out 2).trans rfl; have hfz37_0 := blk_frozen BK260.out 0; have hfz37_1 := blk_frozen BK260.out 1; have hfz37_2 := blk_frozen BK260.out 2) | (go_at_call 19; (with_reducible refine (relate_Order.calls k a0_0 a0_1 a0_2 a0_0 a0_1 a0_2 t268 _ A30.out).mono ?_); rintro e w38 ⟨rfl, hb⟩; have n0_ := Aside0.mk (blk_below (g := gb260) (o := .cells #[.int .i64 a0_0, .int .u64 a0_1, .string a0_2] 29 (0, 0)) (by (with_reducible repeat (first | refine blk_drewN ?_ _ | refine blk_drew ?_ | refine blk_alloc ?_ _)); exact BK260.out) hb); have n1_ := Aside0.mk (blk_below (g := gb261) (o := .cells #[.int .i64 a1_0, .int .u64 a1_1, .string a1_2] 29 (0, 0)) (by (with_reducible repeat (first | refine blk_drewN ?_ _ | refine blk_drew ?_ | refine blk_alloc ?_ _)); exact BK261.out) hb); have n2_ := Aside0.mk (blk_below (g := gb262) (o := .cells #[.int .i64 a2_0, .int .u64 a2_1, .string a2_2] 29 (0, 0)) (by (with_reducible repeat (first | refine blk_drewN ?_ _ | refine blk_drew ?_ | refine blk_alloc ?_ _)); exact BK262.out) hb); have n3_ := Aside0.mk (below_step (by repeat (first | (with_reducible first | exact HB.out | apply below_alloc | apply pw_below_drewN | apply below_drew1 | refine below_set ?_ GE260.out | refine below_set ?_ GE261.out | refine below_set ?_ GE262.out) | exact HB.out)) hb); clear BK260; clear BK261; clear BK262; clear HB; have BK260 := n0_; have BK261 := n1_; have BK262 := n2_; have HB := n3_; clear n0_ n1_ n2_ n3_; (try clear hb); (try clear hb2); (try clear hk); (try clear hi)))
            go_meet
            case rel => exact ⟨_, ((t268 != 0)), (by first | rfl | (simp; done) | (simp [*]; done)), H', ⟨by first | omega | exact Nat.le_refl _⟩, ⟨by (with_reducible repeat (first | refine blk_drewN ?_ _ | refine blk_drew ?_ | refine blk_alloc ?_ _)); exact BK260.out⟩, ⟨by (with_reducible repeat (first | refine blk_drewN ?_ _ | refine blk_drew ?_ | refine blk_alloc ?_ _)); exact BK261.out⟩, ⟨by (with_reducible repeat (first | refine blk_drewN ?_ _ | refine blk_drew ?_ | refine blk_alloc ?_ _)); exact BK262.out⟩, ⟨by repeat (first | (with_reducible first | exact HB.out | apply below_alloc | apply pw_below_drewN | apply below_drew1 | refine below_set ?_ GE260.out | refine below_set ?_ GE261.out | refine below_set ?_ GE262.out) | exact HB.out)⟩⟩
          · rw [if_neg c29] at H
            have c29b0 : (t267 == (wrap64 (-t264))) = false := beq_eq_false_iff_ne.mpr c29
            have c29b1 : (t267 != (wrap64 (-t264))) = true := bne_iff_ne.mpr c29
            have H' := Aside0.mk H
            clear H
            have hnb39 := NB261_260.out
            have hnc39 := NB260_261.out
            have hnb40 := NB261_262.out
            have hnc40 := NB262_261.out
            have hcz41_0 : w25.cell? ⟨gb261, 0, none⟩ = some (.int .i64 a1_0) := (blk_cell BK261.out 0).trans rfl
            have hcz41_1 : w25.cell? ⟨gb261, 1, none⟩ = some (.int .u64 a1_1) := (blk_cell BK261.out 1).trans rfl
            have hcz41_2 : w25.cell? ⟨gb261, 2, none⟩ = some (.string a1_2) := (blk_cell BK261.out 2).trans rfl
            have hfz41_0 := blk_frozen BK261.out 0
            have hfz41_1 := blk_frozen BK261.out 1
            have hfz41_2 := blk_frozen BK261.out 2
            have hnb42 := NB260_262.out
            have hnc42 := NB262_260.out
            have hcz43_0 : w25.cell? ⟨gb260, 0, none⟩ = some (.int .i64 a0_0) := (blk_cell BK260.out 0).trans rfl
            have hcz43_1 : w25.cell? ⟨gb260, 1, none⟩ = some (.int .u64 a0_1) := (blk_cell BK260.out 1).trans rfl
            have hcz43_2 : w25.cell? ⟨gb260, 2, none⟩ = some (.string a0_2) := (blk_cell BK260.out 2).trans rfl
            have hfz43_0 := blk_frozen BK260.out 0
            have hfz43_1 := blk_frozen BK260.out 1
            have hfz43_2 := blk_frozen BK260.out 2
            go_wp2_with (first | (go_at_call 19; (with_reducible refine (relate_Order.calls k a1_0 a1_1 a1_2 a0_0 a0_1 a0_2 t267 _ A28.out).mono ?_); rintro e w44 ⟨rfl, hb⟩; have n0_ := Aside0.mk (blk_below (g := gb260) (o := .cells #[.int .i64 a0_0, .int .u64 a0_1, .string a0_2] 29 (0, 0)) (by (with_reducible repeat (first | refine blk_drewN ?_ _ | refine blk_drew ?_ | refine blk_alloc ?_ _)); exact BK260.out) hb); have n1_ := Aside0.mk (blk_below (g := gb261) (o := .cells #[.int .i64 a1_0, .int .u64 a1_1, .string a1_2] 29 (0, 0)) (by (with_reducible repeat (first | refine blk_drewN ?_ _ | refine blk_drew ?_ | refine blk_alloc ?_ _)); exact BK261.out) hb); have n2_ := Aside0.mk (blk_below (g := gb262) (o := .cells #[.int .i64 a2_0, .int .u64 a2_1, .string a2_2] 29 (0, 0)) (by (with_reducible repeat (first | refine blk_drewN ?_ _ | refine blk_drew ?_ | refine blk_alloc ?_ _)); exact BK262.out) hb); have n3_ := Aside0.mk (below_step (by repeat (first | (with_reducible first | exact HB.out | apply below_alloc | apply pw_below_drewN | apply below_drew1 | refine below_set ?_ GE260.out | refine below_set ?_ GE261.out | refine below_set ?_ GE262.out) | exact HB.out)) hb); clear BK260; clear BK261; clear BK262; clear HB; have BK260 := n0_; have BK261 := n1_; have BK262 := n2_; have HB := n3_; clear n0_ n1_ n2_ n3_; (try clear hb); (try clear hb2); (try clear hk); (try clear hi)))
            go_meet
            case rel => exact ⟨_, (true), (by first | rfl | (simp; done) | (simp [*]; done)), H', ⟨by first | omega | exact Nat.le_refl _⟩, ⟨by (with_reducible repeat (first | refine blk_drewN ?_ _ | refine blk_drew ?_ | refine blk_alloc ?_ _)); exact BK260.out⟩, ⟨by (with_reducible repeat (first | refine blk_drewN ?_ _ | refine blk_drew ?_ | refine blk_alloc ?_ _)); exact BK261.out⟩, ⟨by (with_reducible repeat (first | refine blk_drewN ?_ _ | refine blk_drew ?_ | refine blk_alloc ?_ _)); exact BK262.out⟩, ⟨by repeat (first | (with_reducible first | exact HB.out | apply below_alloc | apply pw_below_drewN | apply below_drew1 | refine below_set ?_ GE260.out | refine below_set ?_ GE261.out | refine below_set ?_ GE262.out) | exact HB.out)⟩⟩
    case rest =>
      clear HC9
      try clear c1
      try clear c2
      try clear p2
      try clear c3
      try clear c4
      try clear c5
      try clear p6
      try clear c14
      try clear c15
      try clear c17
      try clear c19
      try clear c26
      try clear c26b0
      try clear c27
      try clear c27b0
      try clear c29
      try clear c29b0
      try clear c29b1
      try clear c31
      try clear c32
      try clear c34
      try clear c39
      try clear c40
      try clear c42
      try clear hcz16_0
      try clear hcz16_1
      try clear hcz16_2
      try clear hcz18_0
      try clear hcz18_1
      try clear hcz18_2
      try clear hcz20_0
      try clear hcz20_1
      try clear hcz20_2
      try clear hcz21_0
      try clear hcz21_1
      try clear hcz21_2
      try clear hcz23_0
      try clear hcz23_1
      try clear hcz23_2
      try clear hcz24_0
      try clear hcz24_1
      try clear hcz24_2
      try clear hcz33_0
      try clear hcz33_1
      try clear hcz33_2
      try clear hcz35_0
      try clear hcz35_1
      try clear hcz35_2
      try clear hcz37_0
      try clear hcz37_1
      try clear hcz37_2
      try clear hcz41_0
      try clear hcz41_1
      try clear hcz41_2
      try clear hcz43_0
      try clear hcz43_1
      try clear hcz43_2
      try clear hfz16_0
      try clear hfz16_1
      try clear hfz16_2
      try clear hfz18_0
      try clear hfz18_1
      try clear hfz18_2
      try clear hfz20_0
      try clear hfz20_1
      try clear hfz20_2
      try clear hfz21_0
      try clear hfz21_1
      try clear hfz21_2
      try clear hfz23_0
      try clear hfz23_1
      try clear hfz23_2
      try clear hfz24_0
      try clear hfz24_1
      try clear hfz24_2
      try clear hfz33_0
      try clear hfz33_1
      try clear hfz33_2
      try clear hfz35_0
      try clear hfz35_1
      try clear hfz35_2
      try clear hfz37_0
      try clear hfz37_1
      try clear hfz37_2
      try clear hfz41_0
      try clear hfz41_1
      try clear hfz41_2
      try clear hfz43_0
      try clear hfz43_1
      try clear hfz43_2
      obtain ⟨kq, x45_8, rfl, HA, HJ8, BK260, BK261, BK262, HB⟩ := hcut
      cases kq with
      | zero => exact absurd HA.out (by simp [abacuslaw18_RelateTotal.j0])
      | succ kj8 =>
        have H := HA.out
        clear HA
        simp only [abacuslaw18_RelateTotal.j0] at H
        by_cases c45 : x45_8 = true
        · subst c45
          have H1 : (some false) = some r := by rw [if_pos rfl] at H; exact H
          clear H
          have H := H1
          clear H1
          obtain rfl := Option.some.inj H
          go_wp2
          go_ret
          exact ⟨by first | rfl | (simp [errW_none, errW_some] <;> rfl) | (simp only [append_nothing]; done) | (simp only [append_nothing]; rfl) | (simp [*, errW_none, errW_some] <;> rfl), by repeat (first | (with_reducible first | exact HB.out | apply below_alloc | apply pw_below_drewN | apply below_drew1 | refine below_set ?_ GE260.out | refine below_set ?_ GE261.out | refine below_set ?_ GE262.out) | exact HB.out)⟩
        · replace c45 := Bool.eq_false_iff.mpr c45
          subst c45
          have H1 : (if t264 ≤ 0 then (if t265 ≤ 0 then (if t266 > 0 then (abacuslaw18_RelateTotal.j1 kj8 t264 t265 t266 true a0_0 a0_1 a0_2 a1_0 a1_1 a1_2) else (if t266 = 0 then (if t264 = 0 then (abacuslaw18_RelateTotal.j1 kj8 t264 t265 t266 (t265 != 0) a0_0 a0_1 a0_2 a1_0 a1_1 a1_2) else (abacuslaw18_RelateTotal.j1 kj8 t264 t265 t266 true a0_0 a0_1 a0_2 a1_0 a1_1 a1_2)) else (abacuslaw18_RelateTotal.j1 kj8 t264 t265 t266 false a0_0 a0_1 a0_2 a1_0 a1_1 a1_2))) else (abacuslaw18_RelateTotal.j1 kj8 t264 t265 t266 false a0_0 a0_1 a0_2 a1_0 a1_1 a1_2)) else (abacuslaw18_RelateTotal.j1 kj8 t264 t265 t266 false a0_0 a0_1 a0_2 a1_0 a1_1 a1_2)) = some r := by rw [if_neg (show ¬ (false = true) by decide)] at H; exact H
          clear H
          have H := H1
          clear H1
          have HC46 := Aside0.mk H
          clear H
          go_upto_region 9 with (fail)
          go_cut [67] (fun v67 wc => ∃ (kq : Nat) (x67_45 : Bool), v67 = .bool x67_45 ∧ Aside0 (abacuslaw18_RelateTotal.j1 kq t264 t265 t266 x67_45 a0_0 a0_1 a0_2 a1_0 a1_1 a1_2 = some r) ∧ Aside0 (kq ≤ kj8) ∧ Aside0 (wc.heap[gb260]? = some (.cells #[.int .i64 a0_0, .int .u64 a0_1, .string a0_2] 29 (0, 0))) ∧ Aside0 (wc.heap[gb261]? = some (.cells #[.int .i64 a1_0, .int .u64 a1_1, .string a1_2] 29 (0, 0))) ∧ Aside0 (wc.heap[gb262]? = some (.cells #[.int .i64 a2_0, .int .u64 a2_1, .string a2_2] 29 (0, 0))) ∧ Aside0 (Below w.heap.size w wc))
          case first =>
            have H := HC46.out
            clear HC46
            by_cases c47 : t264 ≤ 0
            · rw [if_pos c47] at H
              have c47b0 : decide (t264 ≤ 0) = true := decide_eq_true c47
              clear c47
              (first | rw [c47b0] | (simp only [i64_w, i32_w]; rw [c47b0]) | skip)
              by_cases c48 : t265 ≤ 0
              · rw [if_pos c48] at H
                have c48b0 : decide (t265 ≤ 0) = true := decide_eq_true c48
                clear c48
                by_cases c49 : t266 > 0
                · rw [if_pos c49] at H
                  have c49b0 : decide (0 < t266) = true := decide_eq_true c49
                  clear c49
                  have H' := Aside0.mk H
                  clear H
                  go_wp2
                  go_meet
                  case rel => exact ⟨_, (true), (by first | rfl | (simp; done) | (simp [*]; done)), H', ⟨by have := HJ8.out; first | omega | exact Nat.le_refl _⟩, ⟨by (with_reducible repeat (first | refine blk_drewN ?_ _ | refine blk_drew ?_ | refine blk_alloc ?_ _)); exact BK260.out⟩, ⟨by (with_reducible repeat (first | refine blk_drewN ?_ _ | refine blk_drew ?_ | refine blk_alloc ?_ _)); exact BK261.out⟩, ⟨by (with_reducible repeat (first | refine blk_drewN ?_ _ | refine blk_drew ?_ | refine blk_alloc ?_ _)); exact BK262.out⟩, ⟨by repeat (first | (with_reducible first | exact HB.out | apply below_alloc | apply pw_below_drewN | apply below_drew1 | refine below_set ?_ GE260.out | refine below_set ?_ GE261.out | refine below_set ?_ GE262.out) | exact HB.out)⟩⟩
                · rw [if_neg c49] at H
                  have c49b0 : decide (0 < t266) = false := decide_eq_false c49
                  clear c49
                  by_cases c50 : t266 = 0
                  · rw [if_pos c50] at H
                    have c50b0 : (t266 == 0) = true := beq_iff_eq.mpr c50
                    have c50b1 : (t266 != 0) = false := bne_eq_false_iff_eq.mpr c50
                    clear c50
                    by_cases c51 : t264 = 0
                    · rw [if_pos c51] at H
                      have c51b0 : (t264 == 0) = true := beq_iff_eq.mpr c51
                      have c51b1 : (t264 != 0) = false := bne_eq_false_iff_eq.mpr c51
                      clear c51
                      have H' := Aside0.mk H
                      clear H
                      go_wp2
                      go_meet
                      case rel => exact ⟨_, ((t265 != 0)), (by first | rfl | (simp; done) | (simp [*]; done)), H', ⟨by have := HJ8.out; first | omega | exact Nat.le_refl _⟩, ⟨by (with_reducible repeat (first | refine blk_drewN ?_ _ | refine blk_drew ?_ | refine blk_alloc ?_ _)); exact BK260.out⟩, ⟨by (with_reducible repeat (first | refine blk_drewN ?_ _ | refine blk_drew ?_ | refine blk_alloc ?_ _)); exact BK261.out⟩, ⟨by (with_reducible repeat (first | refine blk_drewN ?_ _ | refine blk_drew ?_ | refine blk_alloc ?_ _)); exact BK262.out⟩, ⟨by repeat (first | (with_reducible first | exact HB.out | apply below_alloc | apply pw_below_drewN | apply below_drew1 | refine below_set ?_ GE260.out | refine below_set ?_ GE261.out | refine below_set ?_ GE262.out) | exact HB.out)⟩⟩
                    · rw [if_neg c51] at H
                      have c51b0 : (t264 == 0) = false := beq_eq_false_iff_ne.mpr c51
                      have c51b1 : (t264 != 0) = true := bne_iff_ne.mpr c51
                      have H' := Aside0.mk H
                      clear H
                      go_wp2
                      go_meet
                      case rel => exact ⟨_, (true), (by first | rfl | (simp; done) | (simp [*]; done)), H', ⟨by have := HJ8.out; first | omega | exact Nat.le_refl _⟩, ⟨by (with_reducible repeat (first | refine blk_drewN ?_ _ | refine blk_drew ?_ | refine blk_alloc ?_ _)); exact BK260.out⟩, ⟨by (with_reducible repeat (first | refine blk_drewN ?_ _ | refine blk_drew ?_ | refine blk_alloc ?_ _)); exact BK261.out⟩, ⟨by (with_reducible repeat (first | refine blk_drewN ?_ _ | refine blk_drew ?_ | refine blk_alloc ?_ _)); exact BK262.out⟩, ⟨by repeat (first | (with_reducible first | exact HB.out | apply below_alloc | apply pw_below_drewN | apply below_drew1 | refine below_set ?_ GE260.out | refine below_set ?_ GE261.out | refine below_set ?_ GE262.out) | exact HB.out)⟩⟩
                  · rw [if_neg c50] at H
                    have c50b0 : (t266 == 0) = false := beq_eq_false_iff_ne.mpr c50
                    have c50b1 : (t266 != 0) = true := bne_iff_ne.mpr c50
                    have H' := Aside0.mk H
                    clear H
                    go_wp2
                    go_meet
                    case rel => exact ⟨_, (false), (by first | rfl | (simp; done) | (simp [*]; done)), H', ⟨by have := HJ8.out; first | omega | exact Nat.le_refl _⟩, ⟨by (with_reducible repeat (first | refine blk_drewN ?_ _ | refine blk_drew ?_ | refine blk_alloc ?_ _)); exact BK260.out⟩, ⟨by (with_reducible repeat (first | refine blk_drewN ?_ _ | refine blk_drew ?_ | refine blk_alloc ?_ _)); exact BK261.out⟩, ⟨by (with_reducible repeat (first | refine blk_drewN ?_ _ | refine blk_drew ?_ | refine blk_alloc ?_ _)); exact BK262.out⟩, ⟨by repeat (first | (with_reducible first | exact HB.out | apply below_alloc | apply pw_below_drewN | apply below_drew1 | refine below_set ?_ GE260.out | refine below_set ?_ GE261.out | refine below_set ?_ GE262.out) | exact HB.out)⟩⟩
              · rw [if_neg c48] at H
                have c48b0 : decide (t265 ≤ 0) = false := decide_eq_false c48
                clear c48
                have H' := Aside0.mk H
                clear H
                go_wp2
                go_meet
                case rel => exact ⟨_, (false), (by first | rfl | (simp; done) | (simp [*]; done)), H', ⟨by have := HJ8.out; first | omega | exact Nat.le_refl _⟩, ⟨by (with_reducible repeat (first | refine blk_drewN ?_ _ | refine blk_drew ?_ | refine blk_alloc ?_ _)); exact BK260.out⟩, ⟨by (with_reducible repeat (first | refine blk_drewN ?_ _ | refine blk_drew ?_ | refine blk_alloc ?_ _)); exact BK261.out⟩, ⟨by (with_reducible repeat (first | refine blk_drewN ?_ _ | refine blk_drew ?_ | refine blk_alloc ?_ _)); exact BK262.out⟩, ⟨by repeat (first | (with_reducible first | exact HB.out | apply below_alloc | apply pw_below_drewN | apply below_drew1 | refine below_set ?_ GE260.out | refine below_set ?_ GE261.out | refine below_set ?_ GE262.out) | exact HB.out)⟩⟩
            · rw [if_neg c47] at H
              have c47b0 : decide (t264 ≤ 0) = false := decide_eq_false c47
              clear c47
              (first | rw [c47b0] | (simp only [i64_w, i32_w]; rw [c47b0]) | skip)
              have H' := Aside0.mk H
              clear H
              go_wp2
              go_meet
              case rel => exact ⟨_, (false), (by first | rfl | (simp; done) | (simp [*]; done)), H', ⟨by have := HJ8.out; first | omega | exact Nat.le_refl _⟩, ⟨by (with_reducible repeat (first | refine blk_drewN ?_ _ | refine blk_drew ?_ | refine blk_alloc ?_ _)); exact BK260.out⟩, ⟨by (with_reducible repeat (first | refine blk_drewN ?_ _ | refine blk_drew ?_ | refine blk_alloc ?_ _)); exact BK261.out⟩, ⟨by (with_reducible repeat (first | refine blk_drewN ?_ _ | refine blk_drew ?_ | refine blk_alloc ?_ _)); exact BK262.out⟩, ⟨by repeat (first | (with_reducible first | exact HB.out | apply below_alloc | apply pw_below_drewN | apply below_drew1 | refine below_set ?_ GE260.out | refine below_set ?_ GE261.out | refine below_set ?_ GE262.out) | exact HB.out)⟩⟩
          case rest =>
            clear HC46
            try clear c1
            try clear c2
            try clear p2
            try clear c3
            try clear c4
            try clear c5
            try clear p6
            try clear c14
            try clear c15
            try clear c17
            try clear c19
            try clear c26
            try clear c26b0
            try clear c27
            try clear c27b0
            try clear c29
            try clear c29b0
            try clear c29b1
            try clear c31
            try clear c32
            try clear c34
            try clear c39
            try clear c40
            try clear c42
            try clear c45
            try clear c47
            try clear c47b0
            try clear c48
            try clear c48b0
            try clear c49
            try clear c49b0
            try clear c50
            try clear c50b0
            try clear c50b1
            try clear c51
            try clear c51b0
            try clear c51b1
            try clear hcz16_0
            try clear hcz16_1
            try clear hcz16_2
            try clear hcz18_0
            try clear hcz18_1
            try clear hcz18_2
            try clear hcz20_0
            try clear hcz20_1
            try clear hcz20_2
            try clear hcz21_0
            try clear hcz21_1
            try clear hcz21_2
            try clear hcz23_0
            try clear hcz23_1
            try clear hcz23_2
            try clear hcz24_0
            try clear hcz24_1
            try clear hcz24_2
            try clear hcz33_0
            try clear hcz33_1
            try clear hcz33_2
            try clear hcz35_0
            try clear hcz35_1
            try clear hcz35_2
            try clear hcz37_0
            try clear hcz37_1
            try clear hcz37_2
            try clear hcz41_0
            try clear hcz41_1
            try clear hcz41_2
            try clear hcz43_0
            try clear hcz43_1
            try clear hcz43_2
            try clear hfz16_0
            try clear hfz16_1
            try clear hfz16_2
            try clear hfz18_0
            try clear hfz18_1
            try clear hfz18_2
            try clear hfz20_0
            try clear hfz20_1
            try clear hfz20_2
            try clear hfz21_0
            try clear hfz21_1
            try clear hfz21_2
            try clear hfz23_0
            try clear hfz23_1
            try clear hfz23_2
            try clear hfz24_0
            try clear hfz24_1
            try clear hfz24_2
            try clear hfz33_0
            try clear hfz33_1
            try clear hfz33_2
            try clear hfz35_0
            try clear hfz35_1
            try clear hfz35_2
            try clear hfz37_0
            try clear hfz37_1
            try clear hfz37_2
            try clear hfz41_0
            try clear hfz41_1
            try clear hfz41_2
            try clear hfz43_0
            try clear hfz43_1
            try clear hfz43_2
            try clear p2
            try clear p6
            obtain ⟨kq, x67_45, rfl, HA, HJ45, BK260, BK261, BK262, HB⟩ := hcut
            cases kq with
            | zero => exact absurd HA.out (by simp [abacuslaw18_RelateTotal.j1])
            | succ kj45 =>
              have H := HA.out
              clear HA
              simp only [abacuslaw18_RelateTotal.j1] at H
              by_cases c52 : x67_45 = true
              · subst c52
                have H1 : (some false) = some r := by rw [if_pos rfl] at H; exact H
                clear H
                have H := H1
                clear H1
                obtain rfl := Option.some.inj H
                go_wp2
                go_ret
                exact ⟨by first | rfl | (simp [errW_none, errW_some] <;> rfl) | (simp only [append_nothing]; done) | (simp only [append_nothing]; rfl) | (simp [*, errW_none, errW_some] <;> rfl), by repeat (first | (with_reducible first | exact HB.out | apply below_alloc | apply pw_below_drewN | apply below_drew1 | refine below_set ?_ GE260.out | refine below_set ?_ GE261.out | refine below_set ?_ GE262.out) | exact HB.out)⟩
              · replace c52 := Bool.eq_false_iff.mpr c52
                subst c52
                have H1 : (if t264 ≥ 0 then (if t265 ≥ 0 then (if t266 < 0 then (abacuslaw18_RelateTotal.j2 kj45 t264 true a0_0 a0_1 a0_2 a1_0 a1_1 a1_2) else (if t266 = 0 then (if t264 = 0 then (abacuslaw18_RelateTotal.j2 kj45 t264 (t265 != 0) a0_0 a0_1 a0_2 a1_0 a1_1 a1_2) else (abacuslaw18_RelateTotal.j2 kj45 t264 true a0_0 a0_1 a0_2 a1_0 a1_1 a1_2)) else (abacuslaw18_RelateTotal.j2 kj45 t264 false a0_0 a0_1 a0_2 a1_0 a1_1 a1_2))) else (abacuslaw18_RelateTotal.j2 kj45 t264 false a0_0 a0_1 a0_2 a1_0 a1_1 a1_2)) else (abacuslaw18_RelateTotal.j2 kj45 t264 false a0_0 a0_1 a0_2 a1_0 a1_1 a1_2)) = some r := by rw [if_neg (show ¬ (false = true) by decide)] at H; exact H
                clear H
                have H := H1
                clear H1
                have HC53 := Aside0.mk H
                clear H
                go_upto_region 11 with (fail)
                go_cut [89] (fun v89 wc => ∃ (kq : Nat) (x89_52 : Bool), v89 = .bool x89_52 ∧ Aside0 (abacuslaw18_RelateTotal.j2 kq t264 x89_52 a0_0 a0_1 a0_2 a1_0 a1_1 a1_2 = some r) ∧ Aside0 (kq ≤ kj45) ∧ Aside0 (wc.heap[gb260]? = some (.cells #[.int .i64 a0_0, .int .u64 a0_1, .string a0_2] 29 (0, 0))) ∧ Aside0 (wc.heap[gb261]? = some (.cells #[.int .i64 a1_0, .int .u64 a1_1, .string a1_2] 29 (0, 0))) ∧ Aside0 (wc.heap[gb262]? = some (.cells #[.int .i64 a2_0, .int .u64 a2_1, .string a2_2] 29 (0, 0))) ∧ Aside0 (Below w.heap.size w wc))
                case first =>
                  have H := HC53.out
                  clear HC53
                  by_cases c54 : t264 ≥ 0
                  · rw [if_pos c54] at H
                    have c54b0 : decide (0 ≤ t264) = true := decide_eq_true c54
                    clear c54
                    (first | rw [c54b0] | (simp only [i64_w, i32_w]; rw [c54b0]) | skip)
                    by_cases c55 : t265 ≥ 0
                    · rw [if_pos c55] at H
                      have c55b0 : decide (0 ≤ t265) = true := decide_eq_true c55
                      clear c55
                      by_cases c56 : t266 < 0
                      · rw [if_pos c56] at H
                        have c56b0 : decide (t266 < 0) = true := decide_eq_true c56
                        clear c56
                        have H' := Aside0.mk H
                        clear H
                        go_wp2
                        go_meet
                        case rel => exact ⟨_, (true), (by first | rfl | (simp; done) | (simp [*]; done)), H', ⟨by have := HJ8.out; have := HJ45.out; first | omega | exact Nat.le_refl _⟩, ⟨by (with_reducible repeat (first | refine blk_drewN ?_ _ | refine blk_drew ?_ | refine blk_alloc ?_ _)); exact BK260.out⟩, ⟨by (with_reducible repeat (first | refine blk_drewN ?_ _ | refine blk_drew ?_ | refine blk_alloc ?_ _)); exact BK261.out⟩, ⟨by (with_reducible repeat (first | refine blk_drewN ?_ _ | refine blk_drew ?_ | refine blk_alloc ?_ _)); exact BK262.out⟩, ⟨by repeat (first | (with_reducible first | exact HB.out | apply below_alloc | apply pw_below_drewN | apply below_drew1 | refine below_set ?_ GE260.out | refine below_set ?_ GE261.out | refine below_set ?_ GE262.out) | exact HB.out)⟩⟩
                      · rw [if_neg c56] at H
                        have c56b0 : decide (t266 < 0) = false := decide_eq_false c56
                        clear c56
                        by_cases c57 : t266 = 0
                        · rw [if_pos c57] at H
                          have c57b0 : (t266 == 0) = true := beq_iff_eq.mpr c57
                          have c57b1 : (t266 != 0) = false := bne_eq_false_iff_eq.mpr c57
                          clear c57
                          by_cases c58 : t264 = 0
                          · rw [if_pos c58] at H
                            have c58b0 : (t264 == 0) = true := beq_iff_eq.mpr c58
                            have c58b1 : (t264 != 0) = false := bne_eq_false_iff_eq.mpr c58
                            clear c58
                            have H' := Aside0.mk H
                            clear H
                            go_wp2
                            go_meet
                            case rel => exact ⟨_, ((t265 != 0)), (by first | rfl | (simp; done) | (simp [*]; done)), H', ⟨by have := HJ8.out; have := HJ45.out; first | omega | exact Nat.le_refl _⟩, ⟨by (with_reducible repeat (first | refine blk_drewN ?_ _ | refine blk_drew ?_ | refine blk_alloc ?_ _)); exact BK260.out⟩, ⟨by (with_reducible repeat (first | refine blk_drewN ?_ _ | refine blk_drew ?_ | refine blk_alloc ?_ _)); exact BK261.out⟩, ⟨by (with_reducible repeat (first | refine blk_drewN ?_ _ | refine blk_drew ?_ | refine blk_alloc ?_ _)); exact BK262.out⟩, ⟨by repeat (first | (with_reducible first | exact HB.out | apply below_alloc | apply pw_below_drewN | apply below_drew1 | refine below_set ?_ GE260.out | refine below_set ?_ GE261.out | refine below_set ?_ GE262.out) | exact HB.out)⟩⟩
                          · rw [if_neg c58] at H
                            have c58b0 : (t264 == 0) = false := beq_eq_false_iff_ne.mpr c58
                            have c58b1 : (t264 != 0) = true := bne_iff_ne.mpr c58
                            have H' := Aside0.mk H
                            clear H
                            go_wp2
                            go_meet
                            case rel => exact ⟨_, (true), (by first | rfl | (simp; done) | (simp [*]; done)), H', ⟨by have := HJ8.out; have := HJ45.out; first | omega | exact Nat.le_refl _⟩, ⟨by (with_reducible repeat (first | refine blk_drewN ?_ _ | refine blk_drew ?_ | refine blk_alloc ?_ _)); exact BK260.out⟩, ⟨by (with_reducible repeat (first | refine blk_drewN ?_ _ | refine blk_drew ?_ | refine blk_alloc ?_ _)); exact BK261.out⟩, ⟨by (with_reducible repeat (first | refine blk_drewN ?_ _ | refine blk_drew ?_ | refine blk_alloc ?_ _)); exact BK262.out⟩, ⟨by repeat (first | (with_reducible first | exact HB.out | apply below_alloc | apply pw_below_drewN | apply below_drew1 | refine below_set ?_ GE260.out | refine below_set ?_ GE261.out | refine below_set ?_ GE262.out) | exact HB.out)⟩⟩
                        · rw [if_neg c57] at H
                          have c57b0 : (t266 == 0) = false := beq_eq_false_iff_ne.mpr c57
                          have c57b1 : (t266 != 0) = true := bne_iff_ne.mpr c57
                          have H' := Aside0.mk H
                          clear H
                          go_wp2
                          go_meet
                          case rel => exact ⟨_, (false), (by first | rfl | (simp; done) | (simp [*]; done)), H', ⟨by have := HJ8.out; have := HJ45.out; first | omega | exact Nat.le_refl _⟩, ⟨by (with_reducible repeat (first | refine blk_drewN ?_ _ | refine blk_drew ?_ | refine blk_alloc ?_ _)); exact BK260.out⟩, ⟨by (with_reducible repeat (first | refine blk_drewN ?_ _ | refine blk_drew ?_ | refine blk_alloc ?_ _)); exact BK261.out⟩, ⟨by (with_reducible repeat (first | refine blk_drewN ?_ _ | refine blk_drew ?_ | refine blk_alloc ?_ _)); exact BK262.out⟩, ⟨by repeat (first | (with_reducible first | exact HB.out | apply below_alloc | apply pw_below_drewN | apply below_drew1 | refine below_set ?_ GE260.out | refine below_set ?_ GE261.out | refine below_set ?_ GE262.out) | exact HB.out)⟩⟩
                    · rw [if_neg c55] at H
                      have c55b0 : decide (0 ≤ t265) = false := decide_eq_false c55
                      clear c55
                      have H' := Aside0.mk H
                      clear H
                      go_wp2
                      go_meet
                      case rel => exact ⟨_, (false), (by first | rfl | (simp; done) | (simp [*]; done)), H', ⟨by have := HJ8.out; have := HJ45.out; first | omega | exact Nat.le_refl _⟩, ⟨by (with_reducible repeat (first | refine blk_drewN ?_ _ | refine blk_drew ?_ | refine blk_alloc ?_ _)); exact BK260.out⟩, ⟨by (with_reducible repeat (first | refine blk_drewN ?_ _ | refine blk_drew ?_ | refine blk_alloc ?_ _)); exact BK261.out⟩, ⟨by (with_reducible repeat (first | refine blk_drewN ?_ _ | refine blk_drew ?_ | refine blk_alloc ?_ _)); exact BK262.out⟩, ⟨by repeat (first | (with_reducible first | exact HB.out | apply below_alloc | apply pw_below_drewN | apply below_drew1 | refine below_set ?_ GE260.out | refine below_set ?_ GE261.out | refine below_set ?_ GE262.out) | exact HB.out)⟩⟩
                  · rw [if_neg c54] at H
                    have c54b0 : decide (0 ≤ t264) = false := decide_eq_false c54
                    clear c54
                    (first | rw [c54b0] | (simp only [i64_w, i32_w]; rw [c54b0]) | skip)
                    have H' := Aside0.mk H
                    clear H
                    go_wp2
                    go_meet
                    case rel => exact ⟨_, (false), (by first | rfl | (simp; done) | (simp [*]; done)), H', ⟨by have := HJ8.out; have := HJ45.out; first | omega | exact Nat.le_refl _⟩, ⟨by (with_reducible repeat (first | refine blk_drewN ?_ _ | refine blk_drew ?_ | refine blk_alloc ?_ _)); exact BK260.out⟩, ⟨by (with_reducible repeat (first | refine blk_drewN ?_ _ | refine blk_drew ?_ | refine blk_alloc ?_ _)); exact BK261.out⟩, ⟨by (with_reducible repeat (first | refine blk_drewN ?_ _ | refine blk_drew ?_ | refine blk_alloc ?_ _)); exact BK262.out⟩, ⟨by repeat (first | (with_reducible first | exact HB.out | apply below_alloc | apply pw_below_drewN | apply below_drew1 | refine below_set ?_ GE260.out | refine below_set ?_ GE261.out | refine below_set ?_ GE262.out) | exact HB.out)⟩⟩
                case rest =>
                  clear HC53
                  try clear c1
                  try clear c2
                  try clear p2
                  try clear c3
                  try clear c4
                  try clear c5
                  try clear p6
                  try clear c14
                  try clear c15
                  try clear c17
                  try clear c19
                  try clear c26
                  try clear c26b0
                  try clear c27
                  try clear c27b0
                  try clear c29
                  try clear c29b0
                  try clear c29b1
                  try clear c31
                  try clear c32
                  try clear c34
                  try clear c39
                  try clear c40
                  try clear c42
                  try clear c45
                  try clear c47
                  try clear c47b0
                  try clear c48
                  try clear c48b0
                  try clear c49
                  try clear c49b0
                  try clear c50
                  try clear c50b0
                  try clear c50b1
                  try clear c51
                  try clear c51b0
                  try clear c51b1
                  try clear c52
                  try clear c54
                  try clear c54b0
                  try clear c55
                  try clear c55b0
                  try clear c56
                  try clear c56b0
                  try clear c57
                  try clear c57b0
                  try clear c57b1
                  try clear c58
                  try clear c58b0
                  try clear c58b1
                  try clear hcz16_0
                  try clear hcz16_1
                  try clear hcz16_2
                  try clear hcz18_0
                  try clear hcz18_1
                  try clear hcz18_2
                  try clear hcz20_0
                  try clear hcz20_1
                  try clear hcz20_2
                  try clear hcz21_0
                  try clear hcz21_1
                  try clear hcz21_2
                  try clear hcz23_0
                  try clear hcz23_1
                  try clear hcz23_2
                  try clear hcz24_0
                  try clear hcz24_1
                  try clear hcz24_2
                  try clear hcz33_0
                  try clear hcz33_1
                  try clear hcz33_2
                  try clear hcz35_0
                  try clear hcz35_1
                  try clear hcz35_2
                  try clear hcz37_0
                  try clear hcz37_1
                  try clear hcz37_2
                  try clear hcz41_0
                  try clear hcz41_1
                  try clear hcz41_2
                  try clear hcz43_0
                  try clear hcz43_1
                  try clear hcz43_2
                  try clear hfz16_0
                  try clear hfz16_1
                  try clear hfz16_2
                  try clear hfz18_0
                  try clear hfz18_1
                  try clear hfz18_2
                  try clear hfz20_0
                  try clear hfz20_1
                  try clear hfz20_2
                  try clear hfz21_0
                  try clear hfz21_1
                  try clear hfz21_2
                  try clear hfz23_0
                  try clear hfz23_1
                  try clear hfz23_2
                  try clear hfz24_0
                  try clear hfz24_1
                  try clear hfz24_2
                  try clear hfz33_0
                  try clear hfz33_1
                  try clear hfz33_2
                  try clear hfz35_0
                  try clear hfz35_1
                  try clear hfz35_2
                  try clear hfz37_0
                  try clear hfz37_1
                  try clear hfz37_2
                  try clear hfz41_0
                  try clear hfz41_1
                  try clear hfz41_2
                  try clear hfz43_0
                  try clear hfz43_1
                  try clear hfz43_2
                  try clear p2
                  try clear p6
                  obtain ⟨kq, x89_52, rfl, HA, HJ52, BK260, BK261, BK262, HB⟩ := hcut
                  cases kq with
                  | zero => exact absurd HA.out (by simp [abacuslaw18_RelateTotal.j2])
                  | succ kj52 =>
                    have H := HA.out
                    clear HA
                    simp only [abacuslaw18_RelateTotal.j2] at H
                    by_cases c59 : x89_52 = true
                    · subst c59
                      have H1 : (some false) = some r := by rw [if_pos rfl] at H; exact H
                      clear H
                      have H := H1
                      clear H1
                      obtain rfl := Option.some.inj H
                      go_wp2
                      go_ret
                      exact ⟨by first | rfl | (simp [errW_none, errW_some] <;> rfl) | (simp only [append_nothing]; done) | (simp only [append_nothing]; rfl) | (simp [*, errW_none, errW_some] <;> rfl), by repeat (first | (with_reducible first | exact HB.out | apply below_alloc | apply pw_below_drewN | apply below_drew1 | refine below_set ?_ GE260.out | refine below_set ?_ GE261.out | refine below_set ?_ GE262.out) | exact HB.out)⟩
                    · replace c59 := Bool.eq_false_iff.mpr c59
                      subst c59
                      have H1 : ((value_Numeric.f a0_0 a0_1 a0_2).bind fun t269 => (if t269 = true then ((value_Numeric.f a1_0 a1_1 a1_2).bind fun t270 => (abacuslaw18_RelateTotal.j3 kj52 t264 (!t270) a0_0 a0_1 a0_2 a1_0 a1_1 a1_2)) else (abacuslaw18_RelateTotal.j3 kj52 t264 true a0_0 a0_1 a0_2 a1_0 a1_1 a1_2))) = some r := by rw [if_neg (show ¬ (false = true) by decide)] at H; exact H
                      clear H
                      have H := H1
                      clear H1
                      have HC60 := Aside0.mk H
                      clear H
                      go_upto_region 13 with (fail)
                      go_cut [97] (fun v97 wc => ∃ (kq : Nat) (x97_59 : Bool), v97 = .bool x97_59 ∧ Aside0 (abacuslaw18_RelateTotal.j3 kq t264 x97_59 a0_0 a0_1 a0_2 a1_0 a1_1 a1_2 = some r) ∧ Aside0 (kq ≤ kj52) ∧ Aside0 (wc.heap[gb260]? = some (.cells #[.int .i64 a0_0, .int .u64 a0_1, .string a0_2] 29 (0, 0))) ∧ Aside0 (wc.heap[gb261]? = some (.cells #[.int .i64 a1_0, .int .u64 a1_1, .string a1_2] 29 (0, 0))) ∧ Aside0 (wc.heap[gb262]? = some (.cells #[.int .i64 a2_0, .int .u64 a2_1, .string a2_2] 29 (0, 0))) ∧ Aside0 (Below w.heap.size w wc))
                      case first =>
                        have H := HC60.out
                        clear HC60
                        replace H := Option.bind_eq_some_iff.mp H
                        obtain ⟨t269, A610, H⟩ := H
                        replace H : (if t269 = true then ((value_Numeric.f a1_0 a1_1 a1_2).bind fun t270 => (abacuslaw18_RelateTotal.j3 kj52 t264 (!t270) a0_0 a0_1 a0_2 a1_0 a1_1 a1_2)) else (abacuslaw18_RelateTotal.j3 kj52 t264 true a0_0 a0_1 a0_2 a1_0 a1_1 a1_2)) = some r := H
                        have A61 := Aside0.mk A610
                        clear A610
                        by_cases c62 : t269 = true
                        · subst c62
                          have H1 : ((value_Numeric.f a1_0 a1_1 a1_2).bind fun t270 => (abacuslaw18_RelateTotal.j3 kj52 t264 (!t270) a0_0 a0_1 a0_2 a1_0 a1_1 a1_2)) = some r := by rw [if_pos rfl] at H; exact H
                          clear H
                          have H := H1
                          clear H1
                          replace H := Option.bind_eq_some_iff.mp H
                          obtain ⟨t270, A630, H⟩ := H
                          replace H : (abacuslaw18_RelateTotal.j3 kj52 t264 (!t270) a0_0 a0_1 a0_2 a1_0 a1_1 a1_2) = some r := H
                          have A63 := Aside0.mk A630
                          clear A630
                          have H' := Aside0.mk H
                          clear H
                          have hnb64 := NB260_261.out
                          have hnc64 := NB261_260.out
                          have hnb65 := NB260_262.out
                          have hnc65 := NB262_260.out
                          have hcz66_0 : wc.cell? ⟨gb260, 0, none⟩ = some (.int .i64 a0_0) := (blk_cell BK260.out 0).trans rfl
                          have hcz66_1 : wc.cell? ⟨gb260, 1, none⟩ = some (.int .u64 a0_1) := (blk_cell BK260.out 1).trans rfl
                          have hcz66_2 : wc.cell? ⟨gb260, 2, none⟩ = some (.string a0_2) := (blk_cell BK260.out 2).trans rfl
                          have hfz66_0 := blk_frozen BK260.out 0
                          have hfz66_1 := blk_frozen BK260.out 1
                          have hfz66_2 := blk_frozen BK260.out 2
                          go_wp2_with (first | ((with_reducible refine gate_callee (f := 21) rfl ?_); refine goesL_ (some 91) rfl rfl Tryz.func21 (by kernel_rfl) rfl #[.agg #[.int .i64 a0_0, .int .u64 a0_1, .string a0_2]] rfl (by (try simp only [List.map_toArray, List.map_cons, List.map_nil]); first | done | rfl | (simp only [List.length_drop, List.length_take]; rfl)) ?_; (with_reducible refine (value_Numeric.calls a0_0 a0_1 a0_2 true _ A61.out).mono ?_); rintro e w67 ⟨rfl, hb⟩; refine ⟨_, rfl, ?_⟩; have n0_ := Aside0.mk (blk_below (g := gb260) (o := .cells #[.int .i64 a0_0, .int .u64 a0_1, .string a0_2] 29 (0, 0)) (by (with_reducible repeat (first | refine blk_drewN ?_ _ | refine blk_drew ?_ | refine blk_alloc ?_ _)); exact BK260.out) hb); have n1_ := Aside0.mk (blk_below (g := gb261) (o := .cells #[.int .i64 a1_0, .int .u64 a1_1, .string a1_2] 29 (0, 0)) (by (with_reducible repeat (first | refine blk_drewN ?_ _ | refine blk_drew ?_ | refine blk_alloc ?_ _)); exact BK261.out) hb); have n2_ := Aside0.mk (blk_below (g := gb262) (o := .cells #[.int .i64 a2_0, .int .u64 a2_1, .string a2_2] 29 (0, 0)) (by (with_reducible repeat (first | refine blk_drewN ?_ _ | refine blk_drew ?_ | refine blk_alloc ?_ _)); exact BK262.out) hb); have n3_ := Aside0.mk (below_step (by repeat (first | (with_reducible first | exact HB.out | apply below_alloc | apply pw_below_drewN | apply below_drew1 | refine below_set ?_ GE260.out | refine below_set ?_ GE261.out | refine below_set ?_ GE262.out) | exact HB.out)) hb); clear BK260; clear BK261; clear BK262; clear HB; have BK260 := n0_; have BK261 := n1_; have BK262 := n2_; have HB := n3_; clear n0_ n1_ n2_ n3_; (try clear hb); (try clear hb2); (try clear hk); (try clear hi); have hnb68 := NB261_262.out; have hnc68 := NB262_261.out; have hcz69_0 : w67.cell? ⟨gb261, 0, none⟩ = some (.int .i64 a1_0) := (blk_cell BK261.out 0).trans rfl; have hcz69_1 : w67.cell? ⟨gb261, 1, none⟩ = some (.int .u64 a1_1) := (blk_cell BK261.out 1).trans rfl; have hcz69_2 : w67.cell? ⟨gb261, 2, none⟩ = some (.string a1_2) := (blk_cell BK261.out 2).trans rfl; have hfz69_0 := blk_frozen BK261.out 0; have hfz69_1 := blk_frozen BK261.out 1; have hfz69_2 := blk_frozen BK261.out 2) | (go_at_call 21; (with_reducible refine (value_Numeric.calls a1_0 a1_1 a1_2 t270 _ A63.out).mono ?_); rintro e w70 ⟨rfl, hb⟩; have n0_ := Aside0.mk (blk_below (g := gb260) (o := .cells #[.int .i64 a0_0, .int .u64 a0_1, .string a0_2] 29 (0, 0)) (by (with_reducible repeat (first | refine blk_drewN ?_ _ | refine blk_drew ?_ | refine blk_alloc ?_ _)); exact BK260.out) hb); have n1_ := Aside0.mk (blk_below (g := gb261) (o := .cells #[.int .i64 a1_0, .int .u64 a1_1, .string a1_2] 29 (0, 0)) (by (with_reducible repeat (first | refine blk_drewN ?_ _ | refine blk_drew ?_ | refine blk_alloc ?_ _)); exact BK261.out) hb); have n2_ := Aside0.mk (blk_below (g := gb262) (o := .cells #[.int .i64 a2_0, .int .u64 a2_1, .string a2_2] 29 (0, 0)) (by (with_reducible repeat (first | refine blk_drewN ?_ _ | refine blk_drew ?_ | refine blk_alloc ?_ _)); exact BK262.out) hb); have n3_ := Aside0.mk (below_step (by repeat (first | (with_reducible first | exact HB.out | apply below_alloc | apply pw_below_drewN | apply below_drew1 | refine below_set ?_ GE260.out | refine below_set ?_ GE261.out | refine below_set ?_ GE262.out) | exact HB.out)) hb); clear BK260; clear BK261; clear BK262; clear HB; have BK260 := n0_; have BK261 := n1_; have BK262 := n2_; have HB := n3_; clear n0_ n1_ n2_ n3_; (try clear hb); (try clear hb2); (try clear hk); (try clear hi)))
                          go_meet
                          case rel => exact ⟨_, (!t270), (by first | rfl | (simp; done) | (simp [*]; done)), H', ⟨by have := HJ8.out; have := HJ45.out; have := HJ52.out; first | omega | exact Nat.le_refl _⟩, ⟨by (with_reducible repeat (first | refine blk_drewN ?_ _ | refine blk_drew ?_ | refine blk_alloc ?_ _)); exact BK260.out⟩, ⟨by (with_reducible repeat (first | refine blk_drewN ?_ _ | refine blk_drew ?_ | refine blk_alloc ?_ _)); exact BK261.out⟩, ⟨by (with_reducible repeat (first | refine blk_drewN ?_ _ | refine blk_drew ?_ | refine blk_alloc ?_ _)); exact BK262.out⟩, ⟨by repeat (first | (with_reducible first | exact HB.out | apply below_alloc | apply pw_below_drewN | apply below_drew1 | refine below_set ?_ GE260.out | refine below_set ?_ GE261.out | refine below_set ?_ GE262.out) | exact HB.out)⟩⟩
                        · replace c62 := Bool.eq_false_iff.mpr c62
                          subst c62
                          have H1 : (abacuslaw18_RelateTotal.j3 kj52 t264 true a0_0 a0_1 a0_2 a1_0 a1_1 a1_2) = some r := by rw [if_neg (show ¬ (false = true) by decide)] at H; exact H
                          clear H
                          have H := H1
                          clear H1
                          have H' := Aside0.mk H
                          clear H
                          have hnb71 := NB260_261.out
                          have hnc71 := NB261_260.out
                          have hnb72 := NB260_262.out
                          have hnc72 := NB262_260.out
                          have hcz73_0 : wc.cell? ⟨gb260, 0, none⟩ = some (.int .i64 a0_0) := (blk_cell BK260.out 0).trans rfl
                          have hcz73_1 : wc.cell? ⟨gb260, 1, none⟩ = some (.int .u64 a0_1) := (blk_cell BK260.out 1).trans rfl
                          have hcz73_2 : wc.cell? ⟨gb260, 2, none⟩ = some (.string a0_2) := (blk_cell BK260.out 2).trans rfl
                          have hfz73_0 := blk_frozen BK260.out 0
                          have hfz73_1 := blk_frozen BK260.out 1
                          have hfz73_2 := blk_frozen BK260.out 2
                          go_wp2_with (first | ((with_reducible refine gate_callee (f := 21) rfl ?_); refine goesL_ (some 91) rfl rfl Tryz.func21 (by kernel_rfl) rfl #[.agg #[.int .i64 a0_0, .int .u64 a0_1, .string a0_2]] rfl (by (try simp only [List.map_toArray, List.map_cons, List.map_nil]); first | done | rfl | (simp only [List.length_drop, List.length_take]; rfl)) ?_; (with_reducible refine (value_Numeric.calls a0_0 a0_1 a0_2 false _ A61.out).mono ?_); rintro e w74 ⟨rfl, hb⟩; refine ⟨_, rfl, ?_⟩; have n0_ := Aside0.mk (blk_below (g := gb260) (o := .cells #[.int .i64 a0_0, .int .u64 a0_1, .string a0_2] 29 (0, 0)) (by (with_reducible repeat (first | refine blk_drewN ?_ _ | refine blk_drew ?_ | refine blk_alloc ?_ _)); exact BK260.out) hb); have n1_ := Aside0.mk (blk_below (g := gb261) (o := .cells #[.int .i64 a1_0, .int .u64 a1_1, .string a1_2] 29 (0, 0)) (by (with_reducible repeat (first | refine blk_drewN ?_ _ | refine blk_drew ?_ | refine blk_alloc ?_ _)); exact BK261.out) hb); have n2_ := Aside0.mk (blk_below (g := gb262) (o := .cells #[.int .i64 a2_0, .int .u64 a2_1, .string a2_2] 29 (0, 0)) (by (with_reducible repeat (first | refine blk_drewN ?_ _ | refine blk_drew ?_ | refine blk_alloc ?_ _)); exact BK262.out) hb); have n3_ := Aside0.mk (below_step (by repeat (first | (with_reducible first | exact HB.out | apply below_alloc | apply pw_below_drewN | apply below_drew1 | refine below_set ?_ GE260.out | refine below_set ?_ GE261.out | refine below_set ?_ GE262.out) | exact HB.out)) hb); clear BK260; clear BK261; clear BK262; clear HB; have BK260 := n0_; have BK261 := n1_; have BK262 := n2_; have HB := n3_; clear n0_ n1_ n2_ n3_; (try clear hb); (try clear hb2); (try clear hk); (try clear hi)))
                          go_meet
                          case rel => exact ⟨_, (true), (by first | rfl | (simp; done) | (simp [*]; done)), H', ⟨by have := HJ8.out; have := HJ45.out; have := HJ52.out; first | omega | exact Nat.le_refl _⟩, ⟨by (with_reducible repeat (first | refine blk_drewN ?_ _ | refine blk_drew ?_ | refine blk_alloc ?_ _)); exact BK260.out⟩, ⟨by (with_reducible repeat (first | refine blk_drewN ?_ _ | refine blk_drew ?_ | refine blk_alloc ?_ _)); exact BK261.out⟩, ⟨by (with_reducible repeat (first | refine blk_drewN ?_ _ | refine blk_drew ?_ | refine blk_alloc ?_ _)); exact BK262.out⟩, ⟨by repeat (first | (with_reducible first | exact HB.out | apply below_alloc | apply pw_below_drewN | apply below_drew1 | refine below_set ?_ GE260.out | refine below_set ?_ GE261.out | refine below_set ?_ GE262.out) | exact HB.out)⟩⟩
                      case rest =>
                        clear HC60
                        try clear c1
                        try clear c2
                        try clear p2
                        try clear c3
                        try clear c4
                        try clear c5
                        try clear c6
                        try clear p6
                        try clear c7
                        try clear c14
                        try clear c15
                        try clear c17
                        try clear c19
                        try clear c21
                        try clear c26
                        try clear c26b0
                        try clear c27
                        try clear c27b0
                        try clear c29
                        try clear c29b0
                        try clear c29b1
                        try clear c31
                        try clear c32
                        try clear c34
                        try clear c39
                        try clear c40
                        try clear c42
                        try clear c45
                        try clear c47
                        try clear c47b0
                        try clear c48
                        try clear c48b0
                        try clear c49
                        try clear c49b0
                        try clear c50
                        try clear c50b0
                        try clear c50b1
                        try clear c51
                        try clear c51b0
                        try clear c51b1
                        try clear c52
                        try clear c54
                        try clear c54b0
                        try clear c55
                        try clear c55b0
                        try clear c56
                        try clear c56b0
                        try clear c57
                        try clear c57b0
                        try clear c57b1
                        try clear c58
                        try clear c58b0
                        try clear c58b1
                        try clear c59
                        try clear c62
                        try clear c64
                        try clear c65
                        try clear c68
                        try clear c71
                        try clear c72
                        try clear hcz16_0
                        try clear hcz16_1
                        try clear hcz16_2
                        try clear hcz18_0
                        try clear hcz18_1
                        try clear hcz18_2
                        try clear hcz20_0
                        try clear hcz20_1
                        try clear hcz20_2
                        try clear hcz21_0
                        try clear hcz21_1
                        try clear hcz21_2
                        try clear hcz23_0
                        try clear hcz23_1
                        try clear hcz23_2
                        try clear hcz24_0
                        try clear hcz24_1
                        try clear hcz24_2
                        try clear hcz33_0
                        try clear hcz33_1
                        try clear hcz33_2
                        try clear hcz35_0
                        try clear hcz35_1
                        try clear hcz35_2
                        try clear hcz37_0
                        try clear hcz37_1
                        try clear hcz37_2
                        try clear hcz41_0
                        try clear hcz41_1
                        try clear hcz41_2
                        try clear hcz43_0
                        try clear hcz43_1
                        try clear hcz43_2
                        try clear hcz66_0
                        try clear hcz66_1
                        try clear hcz66_2
                        try clear hcz69_0
                        try clear hcz69_1
                        try clear hcz69_2
                        try clear hcz73_0
                        try clear hcz73_1
                        try clear hcz73_2
                        try clear hfz16_0
                        try clear hfz16_1
                        try clear hfz16_2
                        try clear hfz18_0
                        try clear hfz18_1
                        try clear hfz18_2
                        try clear hfz20_0
                        try clear hfz20_1
                        try clear hfz20_2
                        try clear hfz21_0
                        try clear hfz21_1
                        try clear hfz21_2
                        try clear hfz23_0
                        try clear hfz23_1
                        try clear hfz23_2
                        try clear hfz24_0
                        try clear hfz24_1
                        try clear hfz24_2
                        try clear hfz33_0
                        try clear hfz33_1
                        try clear hfz33_2
                        try clear hfz35_0
                        try clear hfz35_1
                        try clear hfz35_2
                        try clear hfz37_0
                        try clear hfz37_1
                        try clear hfz37_2
                        try clear hfz41_0
                        try clear hfz41_1
                        try clear hfz41_2
                        try clear hfz43_0
                        try clear hfz43_1
                        try clear hfz43_2
                        try clear hfz66_0
                        try clear hfz66_1
                        try clear hfz66_2
                        try clear hfz69_0
                        try clear hfz69_1
                        try clear hfz69_2
                        try clear hfz73_0
                        try clear hfz73_1
                        try clear hfz73_2
                        try clear p2
                        try clear p6
                        obtain ⟨kq, x97_59, rfl, HA, HJ59, BK260, BK261, BK262, HB⟩ := hcut
                        cases kq with
                        | zero => exact absurd HA.out (by simp [abacuslaw18_RelateTotal.j3])
                        | succ kj59 =>
                          have H := HA.out
                          clear HA
                          simp only [abacuslaw18_RelateTotal.j3] at H
                          by_cases c75 : x97_59 = true
                          · subst c75
                            have H1 : (some true) = some r := by rw [if_pos rfl] at H; exact H
                            clear H
                            have H := H1
                            clear H1
                            obtain rfl := Option.some.inj H
                            go_wp2
                            go_ret
                            exact ⟨by first | rfl | (simp [errW_none, errW_some] <;> rfl) | (simp only [append_nothing]; done) | (simp only [append_nothing]; rfl) | (simp [*, errW_none, errW_some] <;> rfl), by repeat (first | (with_reducible first | exact HB.out | apply below_alloc | apply pw_below_drewN | apply below_drew1 | refine below_set ?_ GE260.out | refine below_set ?_ GE261.out | refine below_set ?_ GE262.out) | exact HB.out)⟩
                          · replace c75 := Bool.eq_false_iff.mpr c75
                            subst c75
                            have H1 : ((relate_Compare.f kj59 a0_0 a0_1 a0_2 a1_0 a1_1 a1_2 (⟨#[]⟩ : ByteArray)).bind fun bt271 => ((abacuslaw18_isNaN.f a0_0 a0_1 a0_2).bind fun t273 => (if t273 = true then (abacuslaw18_RelateTotal.j4 kj59 t264 bt271.1 bt271.2 true a0_0 a0_1 a0_2 a1_0 a1_1 a1_2) else ((abacuslaw18_isNaN.f a1_0 a1_1 a1_2).bind fun t274 => (abacuslaw18_RelateTotal.j4 kj59 t264 bt271.1 bt271.2 t274 a0_0 a0_1 a0_2 a1_0 a1_1 a1_2))))) = some r := by rw [if_neg (show ¬ (false = true) by decide)] at H; exact H
                            clear H
                            have H := H1
                            clear H1
                            replace H := Option.bind_eq_some_iff.mp H
                            obtain ⟨⟨t271, t272⟩, A760, H⟩ := H
                            replace H : ((abacuslaw18_isNaN.f a0_0 a0_1 a0_2).bind fun t273 => (if t273 = true then (abacuslaw18_RelateTotal.j4 kj59 t264 t271 t272 true a0_0 a0_1 a0_2 a1_0 a1_1 a1_2) else ((abacuslaw18_isNaN.f a1_0 a1_1 a1_2).bind fun t274 => (abacuslaw18_RelateTotal.j4 kj59 t264 t271 t272 t274 a0_0 a0_1 a0_2 a1_0 a1_1 a1_2)))) = some r := H
                            have A76 := Aside0.mk A760
                            clear A760
                            have HC77 := Aside0.mk H
                            clear H
                            have hnb78 := NB260_261.out
                            have hnc78 := NB261_260.out
                            have hnb79 := NB260_262.out
                            have hnc79 := NB262_260.out
                            have hcz80_0 : wc.cell? ⟨gb260, 0, none⟩ = some (.int .i64 a0_0) := (blk_cell BK260.out 0).trans rfl
                            have hcz80_1 : wc.cell? ⟨gb260, 1, none⟩ = some (.int .u64 a0_1) := (blk_cell BK260.out 1).trans rfl
                            have hcz80_2 : wc.cell? ⟨gb260, 2, none⟩ = some (.string a0_2) := (blk_cell BK260.out 2).trans rfl
                            have hfz80_0 := blk_frozen BK260.out 0
                            have hfz80_1 := blk_frozen BK260.out 1
                            have hfz80_2 := blk_frozen BK260.out 2
                            have hnb81 := NB261_262.out
                            have hnc81 := NB262_261.out
                            have hcz82_0 : wc.cell? ⟨gb261, 0, none⟩ = some (.int .i64 a1_0) := (blk_cell BK261.out 0).trans rfl
                            have hcz82_1 : wc.cell? ⟨gb261, 1, none⟩ = some (.int .u64 a1_1) := (blk_cell BK261.out 1).trans rfl
                            have hcz82_2 : wc.cell? ⟨gb261, 2, none⟩ = some (.string a1_2) := (blk_cell BK261.out 2).trans rfl
                            have hfz82_0 := blk_frozen BK261.out 0
                            have hfz82_1 := blk_frozen BK261.out 1
                            have hfz82_2 := blk_frozen BK261.out 2
                            go_upto_region 16 with (first | ((with_reducible refine gate_callee (f := 17) rfl ?_); refine goesL_ (some 101) rfl rfl Tryz.func17 (by kernel_rfl) rfl #[.agg #[.int .i64 a0_0, .int .u64 a0_1, .string a0_2], .agg #[.int .i64 a1_0, .int .u64 a1_1, .string a1_2], .string (⟨#[]⟩ : ByteArray)] rfl (by (try simp only [List.map_toArray, List.map_cons, List.map_nil]); first | done | rfl | (simp only [List.length_drop, List.length_take]; rfl)) ?_; (with_reducible refine (relate_Compare.calls kj59 a0_0 a0_1 a0_2 a1_0 a1_1 a1_2 (⟨#[]⟩ : ByteArray) t271 t272 _ A76.out).mono ?_); rintro e w83 ⟨rfl, hb⟩; refine ⟨_, rfl, ?_⟩; have n0_ := Aside0.mk (blk_below (g := gb260) (o := .cells #[.int .i64 a0_0, .int .u64 a0_1, .string a0_2] 29 (0, 0)) (by (with_reducible repeat (first | refine blk_drewN ?_ _ | refine blk_drew ?_ | refine blk_alloc ?_ _)); exact BK260.out) hb); have n1_ := Aside0.mk (blk_below (g := gb261) (o := .cells #[.int .i64 a1_0, .int .u64 a1_1, .string a1_2] 29 (0, 0)) (by (with_reducible repeat (first | refine blk_drewN ?_ _ | refine blk_drew ?_ | refine blk_alloc ?_ _)); exact BK261.out) hb); have n2_ := Aside0.mk (blk_below (g := gb262) (o := .cells #[.int .i64 a2_0, .int .u64 a2_1, .string a2_2] 29 (0, 0)) (by (with_reducible repeat (first | refine blk_drewN ?_ _ | refine blk_drew ?_ | refine blk_alloc ?_ _)); exact BK262.out) hb); have n3_ := Aside0.mk (below_step (by repeat (first | (with_reducible first | exact HB.out | apply below_alloc | apply pw_below_drewN | apply below_drew1 | refine below_set ?_ GE260.out | refine below_set ?_ GE261.out | refine below_set ?_ GE262.out) | exact HB.out)) hb); clear BK260; clear BK261; clear BK262; clear HB; have BK260 := n0_; have BK261 := n1_; have BK262 := n2_; have HB := n3_; clear n0_ n1_ n2_ n3_; (try clear hb); (try clear hb2); (try clear hk); (try clear hi)))
                            (try simp only [Act.put, List.setIfInBounds_toArray, List.set_cons_zero, List.set_cons_succ])
                            go_cut [109] (fun v109 wc => ∃ (kq : Nat) (x109_76 : Bool), v109 = .bool x109_76 ∧ Aside0 (abacuslaw18_RelateTotal.j4 kq t264 t271 t272 x109_76 a0_0 a0_1 a0_2 a1_0 a1_1 a1_2 = some r) ∧ Aside0 (kq ≤ kj59) ∧ Aside0 (wc.heap[gb260]? = some (.cells #[.int .i64 a0_0, .int .u64 a0_1, .string a0_2] 29 (0, 0))) ∧ Aside0 (wc.heap[gb261]? = some (.cells #[.int .i64 a1_0, .int .u64 a1_1, .string a1_2] 29 (0, 0))) ∧ Aside0 (wc.heap[gb262]? = some (.cells #[.int .i64 a2_0, .int .u64 a2_1, .string a2_2] 29 (0, 0))) ∧ Aside0 (Below w.heap.size w wc))
                            case first =>
                              have H := HC77.out
                              clear HC77
                              replace H := Option.bind_eq_some_iff.mp H
                              obtain ⟨t273, A840, H⟩ := H
                              replace H : (if t273 = true then (abacuslaw18_RelateTotal.j4 kj59 t264 t271 t272 true a0_0 a0_1 a0_2 a1_0 a1_1 a1_2) else ((abacuslaw18_isNaN.f a1_0 a1_1 a1_2).bind fun t274 => (abacuslaw18_RelateTotal.j4 kj59 t264 t271 t272 t274 a0_0 a0_1 a0_2 a1_0 a1_1 a1_2))) = some r := H
                              have A84 := Aside0.mk A840
                              clear A840
                              by_cases c85 : t273 = true
                              · subst c85
                                have H1 : (abacuslaw18_RelateTotal.j4 kj59 t264 t271 t272 true a0_0 a0_1 a0_2 a1_0 a1_1 a1_2) = some r := by rw [if_pos rfl] at H; exact H
                                clear H
                                have H := H1
                                clear H1
                                have H' := Aside0.mk H
                                clear H
                                have hnb86 := NB260_261.out
                                have hnc86 := NB261_260.out
                                have hnb87 := NB260_262.out
                                have hnc87 := NB262_260.out
                                have hcz88_0 : w83.cell? ⟨gb260, 0, none⟩ = some (.int .i64 a0_0) := (blk_cell BK260.out 0).trans rfl
                                have hcz88_1 : w83.cell? ⟨gb260, 1, none⟩ = some (.int .u64 a0_1) := (blk_cell BK260.out 1).trans rfl
                                have hcz88_2 : w83.cell? ⟨gb260, 2, none⟩ = some (.string a0_2) := (blk_cell BK260.out 2).trans rfl
                                have hfz88_0 := blk_frozen BK260.out 0
                                have hfz88_1 := blk_frozen BK260.out 1
                                have hfz88_2 := blk_frozen BK260.out 2
                                go_wp2_with (first | ((with_reducible refine gate_callee (f := 22) rfl ?_); refine goesL_ (some 105) rfl rfl Tryz.func22 (by kernel_rfl) rfl #[.agg #[.int .i64 a0_0, .int .u64 a0_1, .string a0_2]] rfl (by (try simp only [List.map_toArray, List.map_cons, List.map_nil]); first | done | rfl | (simp only [List.length_drop, List.length_take]; rfl)) ?_; (with_reducible refine (abacuslaw18_isNaN.calls a0_0 a0_1 a0_2 true _ A84.out).mono ?_); rintro e w89 ⟨rfl, hb⟩; refine ⟨_, rfl, ?_⟩; have n0_ := Aside0.mk (blk_below (g := gb260) (o := .cells #[.int .i64 a0_0, .int .u64 a0_1, .string a0_2] 29 (0, 0)) (by (with_reducible repeat (first | refine blk_drewN ?_ _ | refine blk_drew ?_ | refine blk_alloc ?_ _)); exact BK260.out) hb); have n1_ := Aside0.mk (blk_below (g := gb261) (o := .cells #[.int .i64 a1_0, .int .u64 a1_1, .string a1_2] 29 (0, 0)) (by (with_reducible repeat (first | refine blk_drewN ?_ _ | refine blk_drew ?_ | refine blk_alloc ?_ _)); exact BK261.out) hb); have n2_ := Aside0.mk (blk_below (g := gb262) (o := .cells #[.int .i64 a2_0, .int .u64 a2_1, .string a2_2] 29 (0, 0)) (by (with_reducible repeat (first | refine blk_drewN ?_ _ | refine blk_drew ?_ | refine blk_alloc ?_ _)); exact BK262.out) hb); have n3_ := Aside0.mk (below_step (by repeat (first | (with_reducible first | exact HB.out | apply below_alloc | apply pw_below_drewN | apply below_drew1 | refine below_set ?_ GE260.out | refine below_set ?_ GE261.out | refine below_set ?_ GE262.out) | exact HB.out)) hb); clear BK260; clear BK261; clear BK262; clear HB; have BK260 := n0_; have BK261 := n1_; have BK262 := n2_; have HB := n3_; clear n0_ n1_ n2_ n3_; (try clear hb); (try clear hb2); (try clear hk); (try clear hi)))
                                go_meet
                                case rel => exact ⟨_, (true), (by first | rfl | (simp; done) | (simp [*]; done)), H', ⟨by have := HJ8.out; have := HJ45.out; have := HJ52.out; have := HJ59.out; first | omega | exact Nat.le_refl _⟩, ⟨by (with_reducible repeat (first | refine blk_drewN ?_ _ | refine blk_drew ?_ | refine blk_alloc ?_ _)); exact BK260.out⟩, ⟨by (with_reducible repeat (first | refine blk_drewN ?_ _ | refine blk_drew ?_ | refine blk_alloc ?_ _)); exact BK261.out⟩, ⟨by (with_reducible repeat (first | refine blk_drewN ?_ _ | refine blk_drew ?_ | refine blk_alloc ?_ _)); exact BK262.out⟩, ⟨by repeat (first | (with_reducible first | exact HB.out | apply below_alloc | apply pw_below_drewN | apply below_drew1 | refine below_set ?_ GE260.out | refine below_set ?_ GE261.out | refine below_set ?_ GE262.out) | exact HB.out)⟩⟩
                              · replace c85 := Bool.eq_false_iff.mpr c85
                                subst c85
                                have H1 : ((abacuslaw18_isNaN.f a1_0 a1_1 a1_2).bind fun t274 => (abacuslaw18_RelateTotal.j4 kj59 t264 t271 t272 t274 a0_0 a0_1 a0_2 a1_0 a1_1 a1_2)) = some r := by rw [if_neg (show ¬ (false = true) by decide)] at H; exact H
                                clear H
                                have H := H1
                                clear H1
                                replace H := Option.bind_eq_some_iff.mp H
                                obtain ⟨t274, A900, H⟩ := H
                                replace H : (abacuslaw18_RelateTotal.j4 kj59 t264 t271 t272 t274 a0_0 a0_1 a0_2 a1_0 a1_1 a1_2) = some r := H
                                have A90 := Aside0.mk A900
                                clear A900
                                have H' := Aside0.mk H
                                clear H
                                have hnb91 := NB260_261.out
                                have hnc91 := NB261_260.out
                                have hnb92 := NB260_262.out
                                have hnc92 := NB262_260.out
                                have hcz93_0 : w83.cell? ⟨gb260, 0, none⟩ = some (.int .i64 a0_0) := (blk_cell BK260.out 0).trans rfl
                                have hcz93_1 : w83.cell? ⟨gb260, 1, none⟩ = some (.int .u64 a0_1) := (blk_cell BK260.out 1).trans rfl
                                have hcz93_2 : w83.cell? ⟨gb260, 2, none⟩ = some (.string a0_2) := (blk_cell BK260.out 2).trans rfl
                                have hfz93_0 := blk_frozen BK260.out 0
                                have hfz93_1 := blk_frozen BK260.out 1
                                have hfz93_2 := blk_frozen BK260.out 2
                                go_wp2_with (first | ((with_reducible refine gate_callee (f := 22) rfl ?_); refine goesL_ (some 105) rfl rfl Tryz.func22 (by kernel_rfl) rfl #[.agg #[.int .i64 a0_0, .int .u64 a0_1, .string a0_2]] rfl (by (try simp only [List.map_toArray, List.map_cons, List.map_nil]); first | done | rfl | (simp only [List.length_drop, List.length_take]; rfl)) ?_; (with_reducible refine (abacuslaw18_isNaN.calls a0_0 a0_1 a0_2 false _ A84.out).mono ?_); rintro e w94 ⟨rfl, hb⟩; refine ⟨_, rfl, ?_⟩; have n0_ := Aside0.mk (blk_below (g := gb260) (o := .cells #[.int .i64 a0_0, .int .u64 a0_1, .string a0_2] 29 (0, 0)) (by (with_reducible repeat (first | refine blk_drewN ?_ _ | refine blk_drew ?_ | refine blk_alloc ?_ _)); exact BK260.out) hb); have n1_ := Aside0.mk (blk_below (g := gb261) (o := .cells #[.int .i64 a1_0, .int .u64 a1_1, .string a1_2] 29 (0, 0)) (by (with_reducible repeat (first | refine blk_drewN ?_ _ | refine blk_drew ?_ | refine blk_alloc ?_ _)); exact BK261.out) hb); have n2_ := Aside0.mk (blk_below (g := gb262) (o := .cells #[.int .i64 a2_0, .int .u64 a2_1, .string a2_2] 29 (0, 0)) (by (with_reducible repeat (first | refine blk_drewN ?_ _ | refine blk_drew ?_ | refine blk_alloc ?_ _)); exact BK262.out) hb); have n3_ := Aside0.mk (below_step (by repeat (first | (with_reducible first | exact HB.out | apply below_alloc | apply pw_below_drewN | apply below_drew1 | refine below_set ?_ GE260.out | refine below_set ?_ GE261.out | refine below_set ?_ GE262.out) | exact HB.out)) hb); clear BK260; clear BK261; clear BK262; clear HB; have BK260 := n0_; have BK261 := n1_; have BK262 := n2_; have HB := n3_; clear n0_ n1_ n2_ n3_; (try clear hb); (try clear hb2); (try clear hk); (try clear hi); have hnb95 := NB261_262.out; have hnc95 := NB262_261.out; have hcz96_0 : w94.cell? ⟨gb261, 0, none⟩ = some (.int .i64 a1_0) := (blk_cell BK261.out 0).trans rfl; have hcz96_1 : w94.cell? ⟨gb261, 1, none⟩ = some (.int .u64 a1_1) := (blk_cell BK261.out 1).trans rfl; have hcz96_2 : w94.cell? ⟨gb261, 2, none⟩ = some (.string a1_2) := (blk_cell BK261.out 2).trans rfl; have hfz96_0 := blk_frozen BK261.out 0; have hfz96_1 := blk_frozen BK261.out 1; have hfz96_2 := blk_frozen BK261.out 2) | (go_at_call 22; (with_reducible refine (abacuslaw18_isNaN.calls a1_0 a1_1 a1_2 t274 _ A90.out).mono ?_); rintro e w97 ⟨rfl, hb⟩; have n0_ := Aside0.mk (blk_below (g := gb260) (o := .cells #[.int .i64 a0_0, .int .u64 a0_1, .string a0_2] 29 (0, 0)) (by (with_reducible repeat (first | refine blk_drewN ?_ _ | refine blk_drew ?_ | refine blk_alloc ?_ _)); exact BK260.out) hb); have n1_ := Aside0.mk (blk_below (g := gb261) (o := .cells #[.int .i64 a1_0, .int .u64 a1_1, .string a1_2] 29 (0, 0)) (by (with_reducible repeat (first | refine blk_drewN ?_ _ | refine blk_drew ?_ | refine blk_alloc ?_ _)); exact BK261.out) hb); have n2_ := Aside0.mk (blk_below (g := gb262) (o := .cells #[.int .i64 a2_0, .int .u64 a2_1, .string a2_2] 29 (0, 0)) (by (with_reducible repeat (first | refine blk_drewN ?_ _ | refine blk_drew ?_ | refine blk_alloc ?_ _)); exact BK262.out) hb); have n3_ := Aside0.mk (below_step (by repeat (first | (with_reducible first | exact HB.out | apply below_alloc | apply pw_below_drewN | apply below_drew1 | refine below_set ?_ GE260.out | refine below_set ?_ GE261.out | refine below_set ?_ GE262.out) | exact HB.out)) hb); clear BK260; clear BK261; clear BK262; clear HB; have BK260 := n0_; have BK261 := n1_; have BK262 := n2_; have HB := n3_; clear n0_ n1_ n2_ n3_; (try clear hb); (try clear hb2); (try clear hk); (try clear hi)))
                                go_meet
                                case rel => exact ⟨_, (t274), (by first | rfl | (simp; done) | (simp [*]; done)), H', ⟨by have := HJ8.out; have := HJ45.out; have := HJ52.out; have := HJ59.out; first | omega | exact Nat.le_refl _⟩, ⟨by (with_reducible repeat (first | refine blk_drewN ?_ _ | refine blk_drew ?_ | refine blk_alloc ?_ _)); exact BK260.out⟩, ⟨by (with_reducible repeat (first | refine blk_drewN ?_ _ | refine blk_drew ?_ | refine blk_alloc ?_ _)); exact BK261.out⟩, ⟨by (with_reducible repeat (first | refine blk_drewN ?_ _ | refine blk_drew ?_ | refine blk_alloc ?_ _)); exact BK262.out⟩, ⟨by repeat (first | (with_reducible first | exact HB.out | apply below_alloc | apply pw_below_drewN | apply below_drew1 | refine below_set ?_ GE260.out | refine below_set ?_ GE261.out | refine below_set ?_ GE262.out) | exact HB.out)⟩⟩
                            case rest =>
                              clear HC77
                              try clear c1
                              try clear c2
                              try clear p2
                              try clear c3
                              try clear c4
                              try clear c5
                              try clear c6
                              try clear p6
                              try clear c7
                              try clear c8
                              try clear c9
                              try clear c14
                              try clear c15
                              try clear c17
                              try clear c19
                              try clear c21
                              try clear c22
                              try clear c26
                              try clear c26b0
                              try clear c27
                              try clear c27b0
                              try clear c29
                              try clear c29b0
                              try clear c29b1
                              try clear c31
                              try clear c32
                              try clear c34
                              try clear c39
                              try clear c40
                              try clear c42
                              try clear c45
                              try clear c47
                              try clear c47b0
                              try clear c48
                              try clear c48b0
                              try clear c49
                              try clear c49b0
                              try clear c50
                              try clear c50b0
                              try clear c50b1
                              try clear c51
                              try clear c51b0
                              try clear c51b1
                              try clear c52
                              try clear c54
                              try clear c54b0
                              try clear c55
                              try clear c55b0
                              try clear c56
                              try clear c56b0
                              try clear c57
                              try clear c57b0
                              try clear c57b1
                              try clear c58
                              try clear c58b0
                              try clear c58b1
                              try clear c59
                              try clear c62
                              try clear c64
                              try clear c65
                              try clear c68
                              try clear c71
                              try clear c72
                              try clear c75
                              try clear c78
                              try clear c79
                              try clear c81
                              try clear c85
                              try clear c86
                              try clear c87
                              try clear c91
                              try clear c92
                              try clear c95
                              try clear hcz16_0
                              try clear hcz16_1
                              try clear hcz16_2
                              try clear hcz18_0
                              try clear hcz18_1
                              try clear hcz18_2
                              try clear hcz20_0
                              try clear hcz20_1
                              try clear hcz20_2
                              try clear hcz21_0
                              try clear hcz21_1
                              try clear hcz21_2
                              try clear hcz23_0
                              try clear hcz23_1
                              try clear hcz23_2
                              try clear hcz24_0
                              try clear hcz24_1
                              try clear hcz24_2
                              try clear hcz33_0
                              try clear hcz33_1
                              try clear hcz33_2
                              try clear hcz35_0
                              try clear hcz35_1
                              try clear hcz35_2
                              try clear hcz37_0
                              try clear hcz37_1
                              try clear hcz37_2
                              try clear hcz41_0
                              try clear hcz41_1
                              try clear hcz41_2
                              try clear hcz43_0
                              try clear hcz43_1
                              try clear hcz43_2
                              try clear hcz66_0
                              try clear hcz66_1
                              try clear hcz66_2
                              try clear hcz69_0
                              try clear hcz69_1
                              try clear hcz69_2
                              try clear hcz73_0
                              try clear hcz73_1
                              try clear hcz73_2
                              try clear hcz80_0
                              try clear hcz80_1
                              try clear hcz80_2
                              try clear hcz82_0
                              try clear hcz82_1
                              try clear hcz82_2
                              try clear hcz88_0
                              try clear hcz88_1
                              try clear hcz88_2
                              try clear hcz93_0
                              try clear hcz93_1
                              try clear hcz93_2
                              try clear hcz96_0
                              try clear hcz96_1
                              try clear hcz96_2
                              try clear hfz16_0
                              try clear hfz16_1
                              try clear hfz16_2
                              try clear hfz18_0
                              try clear hfz18_1
                              try clear hfz18_2
                              try clear hfz20_0
                              try clear hfz20_1
                              try clear hfz20_2
                              try clear hfz21_0
                              try clear hfz21_1
                              try clear hfz21_2
                              try clear hfz23_0
                              try clear hfz23_1
                              try clear hfz23_2
                              try clear hfz24_0
                              try clear hfz24_1
                              try clear hfz24_2
                              try clear hfz33_0
                              try clear hfz33_1
                              try clear hfz33_2
                              try clear hfz35_0
                              try clear hfz35_1
                              try clear hfz35_2
                              try clear hfz37_0
                              try clear hfz37_1
                              try clear hfz37_2
                              try clear hfz41_0
                              try clear hfz41_1
                              try clear hfz41_2
                              try clear hfz43_0
                              try clear hfz43_1
                              try clear hfz43_2
                              try clear hfz66_0
                              try clear hfz66_1
                              try clear hfz66_2
                              try clear hfz69_0
                              try clear hfz69_1
                              try clear hfz69_2
                              try clear hfz73_0
                              try clear hfz73_1
                              try clear hfz73_2
                              try clear hfz80_0
                              try clear hfz80_1
                              try clear hfz80_2
                              try clear hfz82_0
                              try clear hfz82_1
                              try clear hfz82_2
                              try clear hfz88_0
                              try clear hfz88_1
                              try clear hfz88_2
                              try clear hfz93_0
                              try clear hfz93_1
                              try clear hfz93_2
                              try clear hfz96_0
                              try clear hfz96_1
                              try clear hfz96_2
                              try clear p2
                              try clear p6
                              obtain ⟨kq, x109_76, rfl, HA, HJ76, BK260, BK261, BK262, HB⟩ := hcut
                              cases kq with
                              | zero => exact absurd HA.out (by simp [abacuslaw18_RelateTotal.j4])
                              | succ kj76 =>
                                have H := HA.out
                                clear HA
                                simp only [abacuslaw18_RelateTotal.j4] at H
                                by_cases c98 : x109_76 = true
                                · subst c98
                                  have H1 : ((abacuslaw18_isNaN.f a0_0 a0_1 a0_2).bind fun t275 => (if t275 = true then ((abacuslaw18_isNaN.f a1_0 a1_1 a1_2).bind fun t276 => (if t276 = true then (if t272 = 0 then (if t271 = 2 then (some (t264 == 0)) else (some false)) else (some false)) else (if t272 = 0 then (if t271 = 2 then (some (t264 == 1)) else (some false)) else (some false)))) else ((abacuslaw18_isNaN.f a1_0 a1_1 a1_2).bind fun t277 => (if t277 = true then (if t272 = 0 then (if t271 = 2 then (some (t264 == (-1))) else (some false)) else (some false)) else (if t272 = 0 then (if t271 = 2 then (some (t264 == 1)) else (some false)) else (some false)))))) = some r := by rw [if_pos rfl] at H; exact H
                                  clear H
                                  have H := H1
                                  clear H1
                                  replace H := Option.bind_eq_some_iff.mp H
                                  obtain ⟨t275, A990, H⟩ := H
                                  replace H : (if t275 = true then ((abacuslaw18_isNaN.f a1_0 a1_1 a1_2).bind fun t276 => (if t276 = true then (if t272 = 0 then (if t271 = 2 then (some (t264 == 0)) else (some false)) else (some false)) else (if t272 = 0 then (if t271 = 2 then (some (t264 == 1)) else (some false)) else (some false)))) else ((abacuslaw18_isNaN.f a1_0 a1_1 a1_2).bind fun t277 => (if t277 = true then (if t272 = 0 then (if t271 = 2 then (some (t264 == (-1))) else (some false)) else (some false)) else (if t272 = 0 then (if t271 = 2 then (some (t264 == 1)) else (some false)) else (some false))))) = some r := H
                                  have A99 := Aside0.mk A990
                                  clear A990
                                  by_cases c100 : t275 = true
                                  · subst c100
                                    have H1 : ((abacuslaw18_isNaN.f a1_0 a1_1 a1_2).bind fun t276 => (if t276 = true then (if t272 = 0 then (if t271 = 2 then (some (t264 == 0)) else (some false)) else (some false)) else (if t272 = 0 then (if t271 = 2 then (some (t264 == 1)) else (some false)) else (some false)))) = some r := by rw [if_pos rfl] at H; exact H
                                    clear H
                                    have H := H1
                                    clear H1
                                    replace H := Option.bind_eq_some_iff.mp H
                                    obtain ⟨t276, A1010, H⟩ := H
                                    replace H : (if t276 = true then (if t272 = 0 then (if t271 = 2 then (some (t264 == 0)) else (some false)) else (some false)) else (if t272 = 0 then (if t271 = 2 then (some (t264 == 1)) else (some false)) else (some false))) = some r := H
                                    have A101 := Aside0.mk A1010
                                    clear A1010
                                    by_cases c102 : t276 = true
                                    · subst c102
                                      have H1 : (if t272 = 0 then (if t271 = 2 then (some (t264 == 0)) else (some false)) else (some false)) = some r := by rw [if_pos rfl] at H; exact H
                                      clear H
                                      have H := H1
                                      clear H1
                                      by_cases c103 : t272 = 0
                                      · rw [if_pos c103] at H
                                        have c103b0 : (t272 == 0) = true := beq_iff_eq.mpr c103
                                        have c103b1 : (t272 != 0) = false := bne_eq_false_iff_eq.mpr c103
                                        clear c103
                                        by_cases c104 : t271 = 2
                                        · rw [if_pos c104] at H
                                          have c104b0 : (t271 == 2) = true := beq_iff_eq.mpr c104
                                          have c104b1 : (t271 != 2) = false := bne_eq_false_iff_eq.mpr c104
                                          clear c104
                                          obtain rfl := Option.some.inj H
                                          have hnb105 := NB260_261.out
                                          have hnc105 := NB261_260.out
                                          have hnb106 := NB260_262.out
                                          have hnc106 := NB262_260.out
                                          have hcz107_0 : wc.cell? ⟨gb260, 0, none⟩ = some (.int .i64 a0_0) := (blk_cell BK260.out 0).trans rfl
                                          have hcz107_1 : wc.cell? ⟨gb260, 1, none⟩ = some (.int .u64 a0_1) := (blk_cell BK260.out 1).trans rfl
                                          have hcz107_2 : wc.cell? ⟨gb260, 2, none⟩ = some (.string a0_2) := (blk_cell BK260.out 2).trans rfl
                                          have hfz107_0 := blk_frozen BK260.out 0
                                          have hfz107_1 := blk_frozen BK260.out 1
                                          have hfz107_2 := blk_frozen BK260.out 2
                                          go_wp2_with (first | ((with_reducible refine gate_callee (f := 22) rfl ?_); refine goesL_ (some 111) rfl rfl Tryz.func22 (by kernel_rfl) rfl #[.agg #[.int .i64 a0_0, .int .u64 a0_1, .string a0_2]] rfl (by (try simp only [List.map_toArray, List.map_cons, List.map_nil]); first | done | rfl | (simp only [List.length_drop, List.length_take]; rfl)) ?_; (with_reducible refine (abacuslaw18_isNaN.calls a0_0 a0_1 a0_2 true _ A99.out).mono ?_); rintro e w108 ⟨rfl, hb⟩; refine ⟨_, rfl, ?_⟩; have n0_ := Aside0.mk (blk_below (g := gb260) (o := .cells #[.int .i64 a0_0, .int .u64 a0_1, .string a0_2] 29 (0, 0)) (by (with_reducible repeat (first | refine blk_drewN ?_ _ | refine blk_drew ?_ | refine blk_alloc ?_ _)); exact BK260.out) hb); have n1_ := Aside0.mk (blk_below (g := gb261) (o := .cells #[.int .i64 a1_0, .int .u64 a1_1, .string a1_2] 29 (0, 0)) (by (with_reducible repeat (first | refine blk_drewN ?_ _ | refine blk_drew ?_ | refine blk_alloc ?_ _)); exact BK261.out) hb); have n2_ := Aside0.mk (blk_below (g := gb262) (o := .cells #[.int .i64 a2_0, .int .u64 a2_1, .string a2_2] 29 (0, 0)) (by (with_reducible repeat (first | refine blk_drewN ?_ _ | refine blk_drew ?_ | refine blk_alloc ?_ _)); exact BK262.out) hb); have n3_ := Aside0.mk (below_step (by repeat (first | (with_reducible first | exact HB.out | apply below_alloc | apply pw_below_drewN | apply below_drew1 | refine below_set ?_ GE260.out | refine below_set ?_ GE261.out | refine below_set ?_ GE262.out) | exact HB.out)) hb); clear BK260; clear BK261; clear BK262; clear HB; have BK260 := n0_; have BK261 := n1_; have BK262 := n2_; have HB := n3_; clear n0_ n1_ n2_ n3_; (try clear hb); (try clear hb2); (try clear hk); (try clear hi); have hnb109 := NB261_262.out; have hnc109 := NB262_261.out; have hcz110_0 : w108.cell? ⟨gb261, 0, none⟩ = some (.int .i64 a1_0) := (blk_cell BK261.out 0).trans rfl; have hcz110_1 : w108.cell? ⟨gb261, 1, none⟩ = some (.int .u64 a1_1) := (blk_cell BK261.out 1).trans rfl; have hcz110_2 : w108.cell? ⟨gb261, 2, none⟩ = some (.string a1_2) := (blk_cell BK261.out 2).trans rfl; have hfz110_0 := blk_frozen BK261.out 0; have hfz110_1 := blk_frozen BK261.out 1; have hfz110_2 := blk_frozen BK261.out 2) | ((with_reducible refine gate_callee (f := 22) rfl ?_); refine goesL_ (some 114) rfl rfl Tryz.func22 (by kernel_rfl) rfl #[.agg #[.int .i64 a1_0, .int .u64 a1_1, .string a1_2]] rfl (by (try simp only [List.map_toArray, List.map_cons, List.map_nil]); first | done | rfl | (simp only [List.length_drop, List.length_take]; rfl)) ?_; (with_reducible refine (abacuslaw18_isNaN.calls a1_0 a1_1 a1_2 true _ A101.out).mono ?_); rintro e w111 ⟨rfl, hb⟩; refine ⟨_, rfl, ?_⟩; have n0_ := Aside0.mk (blk_below (g := gb260) (o := .cells #[.int .i64 a0_0, .int .u64 a0_1, .string a0_2] 29 (0, 0)) (by (with_reducible repeat (first | refine blk_drewN ?_ _ | refine blk_drew ?_ | refine blk_alloc ?_ _)); exact BK260.out) hb); have n1_ := Aside0.mk (blk_below (g := gb261) (o := .cells #[.int .i64 a1_0, .int .u64 a1_1, .string a1_2] 29 (0, 0)) (by (with_reducible repeat (first | refine blk_drewN ?_ _ | refine blk_drew ?_ | refine blk_alloc ?_ _)); exact BK261.out) hb); have n2_ := Aside0.mk (blk_below (g := gb262) (o := .cells #[.int .i64 a2_0, .int .u64 a2_1, .string a2_2] 29 (0, 0)) (by (with_reducible repeat (first | refine blk_drewN ?_ _ | refine blk_drew ?_ | refine blk_alloc ?_ _)); exact BK262.out) hb); have n3_ := Aside0.mk (below_step (by repeat (first | (with_reducible first | exact HB.out | apply below_alloc | apply pw_below_drewN | apply below_drew1 | refine below_set ?_ GE260.out | refine below_set ?_ GE261.out | refine below_set ?_ GE262.out) | exact HB.out)) hb); clear BK260; clear BK261; clear BK262; clear HB; have BK260 := n0_; have BK261 := n1_; have BK262 := n2_; have HB := n3_; clear n0_ n1_ n2_ n3_; (try clear hb); (try clear hb2); (try clear hk); (try clear hi)))
                                          go_ret
                                          exact ⟨by first | rfl | (simp [errW_none, errW_some] <;> rfl) | (simp only [append_nothing]; done) | (simp only [append_nothing]; rfl) | (simp [*, errW_none, errW_some] <;> rfl), by repeat (first | (with_reducible first | exact HB.out | apply below_alloc | apply pw_below_drewN | apply below_drew1 | refine below_set ?_ GE260.out | refine below_set ?_ GE261.out | refine below_set ?_ GE262.out) | exact HB.out)⟩
                                        · rw [if_neg c104] at H
                                          have c104b0 : (t271 == 2) = false := beq_eq_false_iff_ne.mpr c104
                                          have c104b1 : (t271 != 2) = true := bne_iff_ne.mpr c104
                                          obtain rfl := Option.some.inj H
                                          have hnb112 := NB260_261.out
                                          have hnc112 := NB261_260.out
                                          have hnb113 := NB260_262.out
                                          have hnc113 := NB262_260.out
                                          have hcz114_0 : wc.cell? ⟨gb260, 0, none⟩ = some (.int .i64 a0_0) := (blk_cell BK260.out 0).trans rfl
                                          have hcz114_1 : wc.cell? ⟨gb260, 1, none⟩ = some (.int .u64 a0_1) := (blk_cell BK260.out 1).trans rfl
                                          have hcz114_2 : wc.cell? ⟨gb260, 2, none⟩ = some (.string a0_2) := (blk_cell BK260.out 2).trans rfl
                                          have hfz114_0 := blk_frozen BK260.out 0
                                          have hfz114_1 := blk_frozen BK260.out 1
                                          have hfz114_2 := blk_frozen BK260.out 2
                                          go_wp2_with (first | ((with_reducible refine gate_callee (f := 22) rfl ?_); refine goesL_ (some 111) rfl rfl Tryz.func22 (by kernel_rfl) rfl #[.agg #[.int .i64 a0_0, .int .u64 a0_1, .string a0_2]] rfl (by (try simp only [List.map_toArray, List.map_cons, List.map_nil]); first | done | rfl | (simp only [List.length_drop, List.length_take]; rfl)) ?_; (with_reducible refine (abacuslaw18_isNaN.calls a0_0 a0_1 a0_2 true _ A99.out).mono ?_); rintro e w115 ⟨rfl, hb⟩; refine ⟨_, rfl, ?_⟩; have n0_ := Aside0.mk (blk_below (g := gb260) (o := .cells #[.int .i64 a0_0, .int .u64 a0_1, .string a0_2] 29 (0, 0)) (by (with_reducible repeat (first | refine blk_drewN ?_ _ | refine blk_drew ?_ | refine blk_alloc ?_ _)); exact BK260.out) hb); have n1_ := Aside0.mk (blk_below (g := gb261) (o := .cells #[.int .i64 a1_0, .int .u64 a1_1, .string a1_2] 29 (0, 0)) (by (with_reducible repeat (first | refine blk_drewN ?_ _ | refine blk_drew ?_ | refine blk_alloc ?_ _)); exact BK261.out) hb); have n2_ := Aside0.mk (blk_below (g := gb262) (o := .cells #[.int .i64 a2_0, .int .u64 a2_1, .string a2_2] 29 (0, 0)) (by (with_reducible repeat (first | refine blk_drewN ?_ _ | refine blk_drew ?_ | refine blk_alloc ?_ _)); exact BK262.out) hb); have n3_ := Aside0.mk (below_step (by repeat (first | (with_reducible first | exact HB.out | apply below_alloc | apply pw_below_drewN | apply below_drew1 | refine below_set ?_ GE260.out | refine below_set ?_ GE261.out | refine below_set ?_ GE262.out) | exact HB.out)) hb); clear BK260; clear BK261; clear BK262; clear HB; have BK260 := n0_; have BK261 := n1_; have BK262 := n2_; have HB := n3_; clear n0_ n1_ n2_ n3_; (try clear hb); (try clear hb2); (try clear hk); (try clear hi); have hnb116 := NB261_262.out; have hnc116 := NB262_261.out; have hcz117_0 : w115.cell? ⟨gb261, 0, none⟩ = some (.int .i64 a1_0) := (blk_cell BK261.out 0).trans rfl; have hcz117_1 : w115.cell? ⟨gb261, 1, none⟩ = some (.int .u64 a1_1) := (blk_cell BK261.out 1).trans rfl; have hcz117_2 : w115.cell? ⟨gb261, 2, none⟩ = some (.string a1_2) := (blk_cell BK261.out 2).trans rfl; have hfz117_0 := blk_frozen BK261.out 0; have hfz117_1 := blk_frozen BK261.out 1; have hfz117_2 := blk_frozen BK261.out 2) | ((with_reducible refine gate_callee (f := 22) rfl ?_); refine goesL_ (some 114) rfl rfl Tryz.func22 (by kernel_rfl) rfl #[.agg #[.int .i64 a1_0, .int .u64 a1_1, .string a1_2]] rfl (by (try simp only [List.map_toArray, List.map_cons, List.map_nil]); first | done | rfl | (simp only [List.length_drop, List.length_take]; rfl)) ?_; (with_reducible refine (abacuslaw18_isNaN.calls a1_0 a1_1 a1_2 true _ A101.out).mono ?_); rintro e w118 ⟨rfl, hb⟩; refine ⟨_, rfl, ?_⟩; have n0_ := Aside0.mk (blk_below (g := gb260) (o := .cells #[.int .i64 a0_0, .int .u64 a0_1, .string a0_2] 29 (0, 0)) (by (with_reducible repeat (first | refine blk_drewN ?_ _ | refine blk_drew ?_ | refine blk_alloc ?_ _)); exact BK260.out) hb); have n1_ := Aside0.mk (blk_below (g := gb261) (o := .cells #[.int .i64 a1_0, .int .u64 a1_1, .string a1_2] 29 (0, 0)) (by (with_reducible repeat (first | refine blk_drewN ?_ _ | refine blk_drew ?_ | refine blk_alloc ?_ _)); exact BK261.out) hb); have n2_ := Aside0.mk (blk_below (g := gb262) (o := .cells #[.int .i64 a2_0, .int .u64 a2_1, .string a2_2] 29 (0, 0)) (by (with_reducible repeat (first | refine blk_drewN ?_ _ | refine blk_drew ?_ | refine blk_alloc ?_ _)); exact BK262.out) hb); have n3_ := Aside0.mk (below_step (by repeat (first | (with_reducible first | exact HB.out | apply below_alloc | apply pw_below_drewN | apply below_drew1 | refine below_set ?_ GE260.out | refine below_set ?_ GE261.out | refine below_set ?_ GE262.out) | exact HB.out)) hb); clear BK260; clear BK261; clear BK262; clear HB; have BK260 := n0_; have BK261 := n1_; have BK262 := n2_; have HB := n3_; clear n0_ n1_ n2_ n3_; (try clear hb); (try clear hb2); (try clear hk); (try clear hi)))
                                          go_ret
                                          exact ⟨by first | rfl | (simp [errW_none, errW_some] <;> rfl) | (simp only [append_nothing]; done) | (simp only [append_nothing]; rfl) | (simp [*, errW_none, errW_some] <;> rfl), by repeat (first | (with_reducible first | exact HB.out | apply below_alloc | apply pw_below_drewN | apply below_drew1 | refine below_set ?_ GE260.out | refine below_set ?_ GE261.out | refine below_set ?_ GE262.out) | exact HB.out)⟩
                                      · rw [if_neg c103] at H
                                        have c103b0 : (t272 == 0) = false := beq_eq_false_iff_ne.mpr c103
                                        have c103b1 : (t272 != 0) = true := bne_iff_ne.mpr c103
                                        obtain rfl := Option.some.inj H
                                        have hnb119 := NB260_261.out
                                        have hnc119 := NB261_260.out
                                        have hnb120 := NB260_262.out
                                        have hnc120 := NB262_260.out
                                        have hcz121_0 : wc.cell? ⟨gb260, 0, none⟩ = some (.int .i64 a0_0) := (blk_cell BK260.out 0).trans rfl
                                        have hcz121_1 : wc.cell? ⟨gb260, 1, none⟩ = some (.int .u64 a0_1) := (blk_cell BK260.out 1).trans rfl
                                        have hcz121_2 : wc.cell? ⟨gb260, 2, none⟩ = some (.string a0_2) := (blk_cell BK260.out 2).trans rfl
                                        have hfz121_0 := blk_frozen BK260.out 0
                                        have hfz121_1 := blk_frozen BK260.out 1
                                        have hfz121_2 := blk_frozen BK260.out 2
                                        go_wp2_with (first | ((with_reducible refine gate_callee (f := 22) rfl ?_); refine goesL_ (some 111) rfl rfl Tryz.func22 (by kernel_rfl) rfl #[.agg #[.int .i64 a0_0, .int .u64 a0_1, .string a0_2]] rfl (by (try simp only [List.map_toArray, List.map_cons, List.map_nil]); first | done | rfl | (simp only [List.length_drop, List.length_take]; rfl)) ?_; (with_reducible refine (abacuslaw18_isNaN.calls a0_0 a0_1 a0_2 true _ A99.out).mono ?_); rintro e w122 ⟨rfl, hb⟩; refine ⟨_, rfl, ?_⟩; have n0_ := Aside0.mk (blk_below (g := gb260) (o := .cells #[.int .i64 a0_0, .int .u64 a0_1, .string a0_2] 29 (0, 0)) (by (with_reducible repeat (first | refine blk_drewN ?_ _ | refine blk_drew ?_ | refine blk_alloc ?_ _)); exact BK260.out) hb); have n1_ := Aside0.mk (blk_below (g := gb261) (o := .cells #[.int .i64 a1_0, .int .u64 a1_1, .string a1_2] 29 (0, 0)) (by (with_reducible repeat (first | refine blk_drewN ?_ _ | refine blk_drew ?_ | refine blk_alloc ?_ _)); exact BK261.out) hb); have n2_ := Aside0.mk (blk_below (g := gb262) (o := .cells #[.int .i64 a2_0, .int .u64 a2_1, .string a2_2] 29 (0, 0)) (by (with_reducible repeat (first | refine blk_drewN ?_ _ | refine blk_drew ?_ | refine blk_alloc ?_ _)); exact BK262.out) hb); have n3_ := Aside0.mk (below_step (by repeat (first | (with_reducible first | exact HB.out | apply below_alloc | apply pw_below_drewN | apply below_drew1 | refine below_set ?_ GE260.out | refine below_set ?_ GE261.out | refine below_set ?_ GE262.out) | exact HB.out)) hb); clear BK260; clear BK261; clear BK262; clear HB; have BK260 := n0_; have BK261 := n1_; have BK262 := n2_; have HB := n3_; clear n0_ n1_ n2_ n3_; (try clear hb); (try clear hb2); (try clear hk); (try clear hi); have hnb123 := NB261_262.out; have hnc123 := NB262_261.out; have hcz124_0 : w122.cell? ⟨gb261, 0, none⟩ = some (.int .i64 a1_0) := (blk_cell BK261.out 0).trans rfl; have hcz124_1 : w122.cell? ⟨gb261, 1, none⟩ = some (.int .u64 a1_1) := (blk_cell BK261.out 1).trans rfl; have hcz124_2 : w122.cell? ⟨gb261, 2, none⟩ = some (.string a1_2) := (blk_cell BK261.out 2).trans rfl; have hfz124_0 := blk_frozen BK261.out 0; have hfz124_1 := blk_frozen BK261.out 1; have hfz124_2 := blk_frozen BK261.out 2) | ((with_reducible refine gate_callee (f := 22) rfl ?_); refine goesL_ (some 114) rfl rfl Tryz.func22 (by kernel_rfl) rfl #[.agg #[.int .i64 a1_0, .int .u64 a1_1, .string a1_2]] rfl (by (try simp only [List.map_toArray, List.map_cons, List.map_nil]); first | done | rfl | (simp only [List.length_drop, List.length_take]; rfl)) ?_; (with_reducible refine (abacuslaw18_isNaN.calls a1_0 a1_1 a1_2 true _ A101.out).mono ?_); rintro e w125 ⟨rfl, hb⟩; refine ⟨_, rfl, ?_⟩; have n0_ := Aside0.mk (blk_below (g := gb260) (o := .cells #[.int .i64 a0_0, .int .u64 a0_1, .string a0_2] 29 (0, 0)) (by (with_reducible repeat (first | refine blk_drewN ?_ _ | refine blk_drew ?_ | refine blk_alloc ?_ _)); exact BK260.out) hb); have n1_ := Aside0.mk (blk_below (g := gb261) (o := .cells #[.int .i64 a1_0, .int .u64 a1_1, .string a1_2] 29 (0, 0)) (by (with_reducible repeat (first | refine blk_drewN ?_ _ | refine blk_drew ?_ | refine blk_alloc ?_ _)); exact BK261.out) hb); have n2_ := Aside0.mk (blk_below (g := gb262) (o := .cells #[.int .i64 a2_0, .int .u64 a2_1, .string a2_2] 29 (0, 0)) (by (with_reducible repeat (first | refine blk_drewN ?_ _ | refine blk_drew ?_ | refine blk_alloc ?_ _)); exact BK262.out) hb); have n3_ := Aside0.mk (below_step (by repeat (first | (with_reducible first | exact HB.out | apply below_alloc | apply pw_below_drewN | apply below_drew1 | refine below_set ?_ GE260.out | refine below_set ?_ GE261.out | refine below_set ?_ GE262.out) | exact HB.out)) hb); clear BK260; clear BK261; clear BK262; clear HB; have BK260 := n0_; have BK261 := n1_; have BK262 := n2_; have HB := n3_; clear n0_ n1_ n2_ n3_; (try clear hb); (try clear hb2); (try clear hk); (try clear hi)))
                                        go_ret
                                        exact ⟨by first | rfl | (simp [errW_none, errW_some] <;> rfl) | (simp only [append_nothing]; done) | (simp only [append_nothing]; rfl) | (simp [*, errW_none, errW_some] <;> rfl), by repeat (first | (with_reducible first | exact HB.out | apply below_alloc | apply pw_below_drewN | apply below_drew1 | refine below_set ?_ GE260.out | refine below_set ?_ GE261.out | refine below_set ?_ GE262.out) | exact HB.out)⟩
                                    · replace c102 := Bool.eq_false_iff.mpr c102
                                      subst c102
                                      have H1 : (if t272 = 0 then (if t271 = 2 then (some (t264 == 1)) else (some false)) else (some false)) = some r := by rw [if_neg (show ¬ (false = true) by decide)] at H; exact H
                                      clear H
                                      have H := H1
                                      clear H1
                                      by_cases c126 : t272 = 0
                                      · rw [if_pos c126] at H
                                        have c126b0 : (t272 == 0) = true := beq_iff_eq.mpr c126
                                        have c126b1 : (t272 != 0) = false := bne_eq_false_iff_eq.mpr c126
                                        clear c126
                                        by_cases c127 : t271 = 2
                                        · rw [if_pos c127] at H
                                          have c127b0 : (t271 == 2) = true := beq_iff_eq.mpr c127
                                          have c127b1 : (t271 != 2) = false := bne_eq_false_iff_eq.mpr c127
                                          clear c127
                                          obtain rfl := Option.some.inj H
                                          have hnb128 := NB260_261.out
                                          have hnc128 := NB261_260.out
                                          have hnb129 := NB260_262.out
                                          have hnc129 := NB262_260.out
                                          have hcz130_0 : wc.cell? ⟨gb260, 0, none⟩ = some (.int .i64 a0_0) := (blk_cell BK260.out 0).trans rfl
                                          have hcz130_1 : wc.cell? ⟨gb260, 1, none⟩ = some (.int .u64 a0_1) := (blk_cell BK260.out 1).trans rfl
                                          have hcz130_2 : wc.cell? ⟨gb260, 2, none⟩ = some (.string a0_2) := (blk_cell BK260.out 2).trans rfl
                                          have hfz130_0 := blk_frozen BK260.out 0
                                          have hfz130_1 := blk_frozen BK260.out 1
                                          have hfz130_2 := blk_frozen BK260.out 2
                                          go_wp2_with (first | ((with_reducible refine gate_callee (f := 22) rfl ?_); refine goesL_ (some 111) rfl rfl Tryz.func22 (by kernel_rfl) rfl #[.agg #[.int .i64 a0_0, .int .u64 a0_1, .string a0_2]] rfl (by (try simp only [List.map_toArray, List.map_cons, List.map_nil]); first | done | rfl | (simp only [List.length_drop, List.length_take]; rfl)) ?_; (with_reducible refine (abacuslaw18_isNaN.calls a0_0 a0_1 a0_2 true _ A99.out).mono ?_); rintro e w131 ⟨rfl, hb⟩; refine ⟨_, rfl, ?_⟩; have n0_ := Aside0.mk (blk_below (g := gb260) (o := .cells #[.int .i64 a0_0, .int .u64 a0_1, .string a0_2] 29 (0, 0)) (by (with_reducible repeat (first | refine blk_drewN ?_ _ | refine blk_drew ?_ | refine blk_alloc ?_ _)); exact BK260.out) hb); have n1_ := Aside0.mk (blk_below (g := gb261) (o := .cells #[.int .i64 a1_0, .int .u64 a1_1, .string a1_2] 29 (0, 0)) (by (with_reducible repeat (first | refine blk_drewN ?_ _ | refine blk_drew ?_ | refine blk_alloc ?_ _)); exact BK261.out) hb); have n2_ := Aside0.mk (blk_below (g := gb262) (o := .cells #[.int .i64 a2_0, .int .u64 a2_1, .string a2_2] 29 (0, 0)) (by (with_reducible repeat (first | refine blk_drewN ?_ _ | refine blk_drew ?_ | refine blk_alloc ?_ _)); exact BK262.out) hb); have n3_ := Aside0.mk (below_step (by repeat (first | (with_reducible first | exact HB.out | apply below_alloc | apply pw_below_drewN | apply below_drew1 | refine below_set ?_ GE260.out | refine below_set ?_ GE261.out | refine below_set ?_ GE262.out) | exact HB.out)) hb); clear BK260; clear BK261; clear BK262; clear HB; have BK260 := n0_; have BK261 := n1_; have BK262 := n2_; have HB := n3_; clear n0_ n1_ n2_ n3_; (try clear hb); (try clear hb2); (try clear hk); (try clear hi); have hnb132 := NB261_262.out; have hnc132 := NB262_261.out; have hcz133_0 : w131.cell? ⟨gb261, 0, none⟩ = some (.int .i64 a1_0) := (blk_cell BK261.out 0).trans rfl; have hcz133_1 : w131.cell? ⟨gb261, 1, none⟩ = some (.int .u64 a1_1) := (blk_cell BK261.out 1).trans rfl; have hcz133_2 : w131.cell? ⟨gb261, 2, none⟩ = some (.string a1_2) := (blk_cell BK261.out 2).trans rfl; have hfz133_0 := blk_frozen BK261.out 0; have hfz133_1 := blk_frozen BK261.out 1; have hfz133_2 := blk_frozen BK261.out 2) | ((with_reducible refine gate_callee (f := 22) rfl ?_); refine goesL_ (some 114) rfl rfl Tryz.func22 (by kernel_rfl) rfl #[.agg #[.int .i64 a1_0, .int .u64 a1_1, .string a1_2]] rfl (by (try simp only [List.map_toArray, List.map_cons, List.map_nil]); first | done | rfl | (simp only [List.length_drop, List.length_take]; rfl)) ?_; (with_reducible refine (abacuslaw18_isNaN.calls a1_0 a1_1 a1_2 false _ A101.out).mono ?_); rintro e w134 ⟨rfl, hb⟩; refine ⟨_, rfl, ?_⟩; have n0_ := Aside0.mk (blk_below (g := gb260) (o := .cells #[.int .i64 a0_0, .int .u64 a0_1, .string a0_2] 29 (0, 0)) (by (with_reducible repeat (first | refine blk_drewN ?_ _ | refine blk_drew ?_ | refine blk_alloc ?_ _)); exact BK260.out) hb); have n1_ := Aside0.mk (blk_below (g := gb261) (o := .cells #[.int .i64 a1_0, .int .u64 a1_1, .string a1_2] 29 (0, 0)) (by (with_reducible repeat (first | refine blk_drewN ?_ _ | refine blk_drew ?_ | refine blk_alloc ?_ _)); exact BK261.out) hb); have n2_ := Aside0.mk (blk_below (g := gb262) (o := .cells #[.int .i64 a2_0, .int .u64 a2_1, .string a2_2] 29 (0, 0)) (by (with_reducible repeat (first | refine blk_drewN ?_ _ | refine blk_drew ?_ | refine blk_alloc ?_ _)); exact BK262.out) hb); have n3_ := Aside0.mk (below_step (by repeat (first | (with_reducible first | exact HB.out | apply below_alloc | apply pw_below_drewN | apply below_drew1 | refine below_set ?_ GE260.out | refine below_set ?_ GE261.out | refine below_set ?_ GE262.out) | exact HB.out)) hb); clear BK260; clear BK261; clear BK262; clear HB; have BK260 := n0_; have BK261 := n1_; have BK262 := n2_; have HB := n3_; clear n0_ n1_ n2_ n3_; (try clear hb); (try clear hb2); (try clear hk); (try clear hi)))
                                          go_ret
                                          exact ⟨by first | rfl | (simp [errW_none, errW_some] <;> rfl) | (simp only [append_nothing]; done) | (simp only [append_nothing]; rfl) | (simp [*, errW_none, errW_some] <;> rfl), by repeat (first | (with_reducible first | exact HB.out | apply below_alloc | apply pw_below_drewN | apply below_drew1 | refine below_set ?_ GE260.out | refine below_set ?_ GE261.out | refine below_set ?_ GE262.out) | exact HB.out)⟩
                                        · rw [if_neg c127] at H
                                          have c127b0 : (t271 == 2) = false := beq_eq_false_iff_ne.mpr c127
                                          have c127b1 : (t271 != 2) = true := bne_iff_ne.mpr c127
                                          obtain rfl := Option.some.inj H
                                          have hnb135 := NB260_261.out
                                          have hnc135 := NB261_260.out
                                          have hnb136 := NB260_262.out
                                          have hnc136 := NB262_260.out
                                          have hcz137_0 : wc.cell? ⟨gb260, 0, none⟩ = some (.int .i64 a0_0) := (blk_cell BK260.out 0).trans rfl
                                          have hcz137_1 : wc.cell? ⟨gb260, 1, none⟩ = some (.int .u64 a0_1) := (blk_cell BK260.out 1).trans rfl
                                          have hcz137_2 : wc.cell? ⟨gb260, 2, none⟩ = some (.string a0_2) := (blk_cell BK260.out 2).trans rfl
                                          have hfz137_0 := blk_frozen BK260.out 0
                                          have hfz137_1 := blk_frozen BK260.out 1
                                          have hfz137_2 := blk_frozen BK260.out 2
                                          go_wp2_with (first | ((with_reducible refine gate_callee (f := 22) rfl ?_); refine goesL_ (some 111) rfl rfl Tryz.func22 (by kernel_rfl) rfl #[.agg #[.int .i64 a0_0, .int .u64 a0_1, .string a0_2]] rfl (by (try simp only [List.map_toArray, List.map_cons, List.map_nil]); first | done | rfl | (simp only [List.length_drop, List.length_take]; rfl)) ?_; (with_reducible refine (abacuslaw18_isNaN.calls a0_0 a0_1 a0_2 true _ A99.out).mono ?_); rintro e w138 ⟨rfl, hb⟩; refine ⟨_, rfl, ?_⟩; have n0_ := Aside0.mk (blk_below (g := gb260) (o := .cells #[.int .i64 a0_0, .int .u64 a0_1, .string a0_2] 29 (0, 0)) (by (with_reducible repeat (first | refine blk_drewN ?_ _ | refine blk_drew ?_ | refine blk_alloc ?_ _)); exact BK260.out) hb); have n1_ := Aside0.mk (blk_below (g := gb261) (o := .cells #[.int .i64 a1_0, .int .u64 a1_1, .string a1_2] 29 (0, 0)) (by (with_reducible repeat (first | refine blk_drewN ?_ _ | refine blk_drew ?_ | refine blk_alloc ?_ _)); exact BK261.out) hb); have n2_ := Aside0.mk (blk_below (g := gb262) (o := .cells #[.int .i64 a2_0, .int .u64 a2_1, .string a2_2] 29 (0, 0)) (by (with_reducible repeat (first | refine blk_drewN ?_ _ | refine blk_drew ?_ | refine blk_alloc ?_ _)); exact BK262.out) hb); have n3_ := Aside0.mk (below_step (by repeat (first | (with_reducible first | exact HB.out | apply below_alloc | apply pw_below_drewN | apply below_drew1 | refine below_set ?_ GE260.out | refine below_set ?_ GE261.out | refine below_set ?_ GE262.out) | exact HB.out)) hb); clear BK260; clear BK261; clear BK262; clear HB; have BK260 := n0_; have BK261 := n1_; have BK262 := n2_; have HB := n3_; clear n0_ n1_ n2_ n3_; (try clear hb); (try clear hb2); (try clear hk); (try clear hi); have hnb139 := NB261_262.out; have hnc139 := NB262_261.out; have hcz140_0 : w138.cell? ⟨gb261, 0, none⟩ = some (.int .i64 a1_0) := (blk_cell BK261.out 0).trans rfl; have hcz140_1 : w138.cell? ⟨gb261, 1, none⟩ = some (.int .u64 a1_1) := (blk_cell BK261.out 1).trans rfl; have hcz140_2 : w138.cell? ⟨gb261, 2, none⟩ = some (.string a1_2) := (blk_cell BK261.out 2).trans rfl; have hfz140_0 := blk_frozen BK261.out 0; have hfz140_1 := blk_frozen BK261.out 1; have hfz140_2 := blk_frozen BK261.out 2) | ((with_reducible refine gate_callee (f := 22) rfl ?_); refine goesL_ (some 114) rfl rfl Tryz.func22 (by kernel_rfl) rfl #[.agg #[.int .i64 a1_0, .int .u64 a1_1, .string a1_2]] rfl (by (try simp only [List.map_toArray, List.map_cons, List.map_nil]); first | done | rfl | (simp only [List.length_drop, List.length_take]; rfl)) ?_; (with_reducible refine (abacuslaw18_isNaN.calls a1_0 a1_1 a1_2 false _ A101.out).mono ?_); rintro e w141 ⟨rfl, hb⟩; refine ⟨_, rfl, ?_⟩; have n0_ := Aside0.mk (blk_below (g := gb260) (o := .cells #[.int .i64 a0_0, .int .u64 a0_1, .string a0_2] 29 (0, 0)) (by (with_reducible repeat (first | refine blk_drewN ?_ _ | refine blk_drew ?_ | refine blk_alloc ?_ _)); exact BK260.out) hb); have n1_ := Aside0.mk (blk_below (g := gb261) (o := .cells #[.int .i64 a1_0, .int .u64 a1_1, .string a1_2] 29 (0, 0)) (by (with_reducible repeat (first | refine blk_drewN ?_ _ | refine blk_drew ?_ | refine blk_alloc ?_ _)); exact BK261.out) hb); have n2_ := Aside0.mk (blk_below (g := gb262) (o := .cells #[.int .i64 a2_0, .int .u64 a2_1, .string a2_2] 29 (0, 0)) (by (with_reducible repeat (first | refine blk_drewN ?_ _ | refine blk_drew ?_ | refine blk_alloc ?_ _)); exact BK262.out) hb); have n3_ := Aside0.mk (below_step (by repeat (first | (with_reducible first | exact HB.out | apply below_alloc | apply pw_below_drewN | apply below_drew1 | refine below_set ?_ GE260.out | refine below_set ?_ GE261.out | refine below_set ?_ GE262.out) | exact HB.out)) hb); clear BK260; clear BK261; clear BK262; clear HB; have BK260 := n0_; have BK261 := n1_; have BK262 := n2_; have HB := n3_; clear n0_ n1_ n2_ n3_; (try clear hb); (try clear hb2); (try clear hk); (try clear hi)))
                                          go_ret
                                          exact ⟨by first | rfl | (simp [errW_none, errW_some] <;> rfl) | (simp only [append_nothing]; done) | (simp only [append_nothing]; rfl) | (simp [*, errW_none, errW_some] <;> rfl), by repeat (first | (with_reducible first | exact HB.out | apply below_alloc | apply pw_below_drewN | apply below_drew1 | refine below_set ?_ GE260.out | refine below_set ?_ GE261.out | refine below_set ?_ GE262.out) | exact HB.out)⟩
                                      · rw [if_neg c126] at H
                                        have c126b0 : (t272 == 0) = false := beq_eq_false_iff_ne.mpr c126
                                        have c126b1 : (t272 != 0) = true := bne_iff_ne.mpr c126
                                        obtain rfl := Option.some.inj H
                                        have hnb142 := NB260_261.out
                                        have hnc142 := NB261_260.out
                                        have hnb143 := NB260_262.out
                                        have hnc143 := NB262_260.out
                                        have hcz144_0 : wc.cell? ⟨gb260, 0, none⟩ = some (.int .i64 a0_0) := (blk_cell BK260.out 0).trans rfl
                                        have hcz144_1 : wc.cell? ⟨gb260, 1, none⟩ = some (.int .u64 a0_1) := (blk_cell BK260.out 1).trans rfl
                                        have hcz144_2 : wc.cell? ⟨gb260, 2, none⟩ = some (.string a0_2) := (blk_cell BK260.out 2).trans rfl
                                        have hfz144_0 := blk_frozen BK260.out 0
                                        have hfz144_1 := blk_frozen BK260.out 1
                                        have hfz144_2 := blk_frozen BK260.out 2
                                        go_wp2_with (first | ((with_reducible refine gate_callee (f := 22) rfl ?_); refine goesL_ (some 111) rfl rfl Tryz.func22 (by kernel_rfl) rfl #[.agg #[.int .i64 a0_0, .int .u64 a0_1, .string a0_2]] rfl (by (try simp only [List.map_toArray, List.map_cons, List.map_nil]); first | done | rfl | (simp only [List.length_drop, List.length_take]; rfl)) ?_; (with_reducible refine (abacuslaw18_isNaN.calls a0_0 a0_1 a0_2 true _ A99.out).mono ?_); rintro e w145 ⟨rfl, hb⟩; refine ⟨_, rfl, ?_⟩; have n0_ := Aside0.mk (blk_below (g := gb260) (o := .cells #[.int .i64 a0_0, .int .u64 a0_1, .string a0_2] 29 (0, 0)) (by (with_reducible repeat (first | refine blk_drewN ?_ _ | refine blk_drew ?_ | refine blk_alloc ?_ _)); exact BK260.out) hb); have n1_ := Aside0.mk (blk_below (g := gb261) (o := .cells #[.int .i64 a1_0, .int .u64 a1_1, .string a1_2] 29 (0, 0)) (by (with_reducible repeat (first | refine blk_drewN ?_ _ | refine blk_drew ?_ | refine blk_alloc ?_ _)); exact BK261.out) hb); have n2_ := Aside0.mk (blk_below (g := gb262) (o := .cells #[.int .i64 a2_0, .int .u64 a2_1, .string a2_2] 29 (0, 0)) (by (with_reducible repeat (first | refine blk_drewN ?_ _ | refine blk_drew ?_ | refine blk_alloc ?_ _)); exact BK262.out) hb); have n3_ := Aside0.mk (below_step (by repeat (first | (with_reducible first | exact HB.out | apply below_alloc | apply pw_below_drewN | apply below_drew1 | refine below_set ?_ GE260.out | refine below_set ?_ GE261.out | refine below_set ?_ GE262.out) | exact HB.out)) hb); clear BK260; clear BK261; clear BK262; clear HB; have BK260 := n0_; have BK261 := n1_; have BK262 := n2_; have HB := n3_; clear n0_ n1_ n2_ n3_; (try clear hb); (try clear hb2); (try clear hk); (try clear hi); have hnb146 := NB261_262.out; have hnc146 := NB262_261.out; have hcz147_0 : w145.cell? ⟨gb261, 0, none⟩ = some (.int .i64 a1_0) := (blk_cell BK261.out 0).trans rfl; have hcz147_1 : w145.cell? ⟨gb261, 1, none⟩ = some (.int .u64 a1_1) := (blk_cell BK261.out 1).trans rfl; have hcz147_2 : w145.cell? ⟨gb261, 2, none⟩ = some (.string a1_2) := (blk_cell BK261.out 2).trans rfl; have hfz147_0 := blk_frozen BK261.out 0; have hfz147_1 := blk_frozen BK261.out 1; have hfz147_2 := blk_frozen BK261.out 2) | ((with_reducible refine gate_callee (f := 22) rfl ?_); refine goesL_ (some 114) rfl rfl Tryz.func22 (by kernel_rfl) rfl #[.agg #[.int .i64 a1_0, .int .u64 a1_1, .string a1_2]] rfl (by (try simp only [List.map_toArray, List.map_cons, List.map_nil]); first | done | rfl | (simp only [List.length_drop, List.length_take]; rfl)) ?_; (with_reducible refine (abacuslaw18_isNaN.calls a1_0 a1_1 a1_2 false _ A101.out).mono ?_); rintro e w148 ⟨rfl, hb⟩; refine ⟨_, rfl, ?_⟩; have n0_ := Aside0.mk (blk_below (g := gb260) (o := .cells #[.int .i64 a0_0, .int .u64 a0_1, .string a0_2] 29 (0, 0)) (by (with_reducible repeat (first | refine blk_drewN ?_ _ | refine blk_drew ?_ | refine blk_alloc ?_ _)); exact BK260.out) hb); have n1_ := Aside0.mk (blk_below (g := gb261) (o := .cells #[.int .i64 a1_0, .int .u64 a1_1, .string a1_2] 29 (0, 0)) (by (with_reducible repeat (first | refine blk_drewN ?_ _ | refine blk_drew ?_ | refine blk_alloc ?_ _)); exact BK261.out) hb); have n2_ := Aside0.mk (blk_below (g := gb262) (o := .cells #[.int .i64 a2_0, .int .u64 a2_1, .string a2_2] 29 (0, 0)) (by (with_reducible repeat (first | refine blk_drewN ?_ _ | refine blk_drew ?_ | refine blk_alloc ?_ _)); exact BK262.out) hb); have n3_ := Aside0.mk (below_step (by repeat (first | (with_reducible first | exact HB.out | apply below_alloc | apply pw_below_drewN | apply below_drew1 | refine below_set ?_ GE260.out | refine below_set ?_ GE261.out | refine below_set ?_ GE262.out) | exact HB.out)) hb); clear BK260; clear BK261; clear BK262; clear HB; have BK260 := n0_; have BK261 := n1_; have BK262 := n2_; have HB := n3_; clear n0_ n1_ n2_ n3_; (try clear hb); (try clear hb2); (try clear hk); (try clear hi)))
                                        go_ret
                                        exact ⟨by first | rfl | (simp [errW_none, errW_some] <;> rfl) | (simp only [append_nothing]; done) | (simp only [append_nothing]; rfl) | (simp [*, errW_none, errW_some] <;> rfl), by repeat (first | (with_reducible first | exact HB.out | apply below_alloc | apply pw_below_drewN | apply below_drew1 | refine below_set ?_ GE260.out | refine below_set ?_ GE261.out | refine below_set ?_ GE262.out) | exact HB.out)⟩
                                  · replace c100 := Bool.eq_false_iff.mpr c100
                                    subst c100
                                    have H1 : ((abacuslaw18_isNaN.f a1_0 a1_1 a1_2).bind fun t277 => (if t277 = true then (if t272 = 0 then (if t271 = 2 then (some (t264 == (-1))) else (some false)) else (some false)) else (if t272 = 0 then (if t271 = 2 then (some (t264 == 1)) else (some false)) else (some false)))) = some r := by rw [if_neg (show ¬ (false = true) by decide)] at H; exact H
                                    clear H
                                    have H := H1
                                    clear H1
                                    replace H := Option.bind_eq_some_iff.mp H
                                    obtain ⟨t277, A1490, H⟩ := H
                                    replace H : (if t277 = true then (if t272 = 0 then (if t271 = 2 then (some (t264 == (-1))) else (some false)) else (some false)) else (if t272 = 0 then (if t271 = 2 then (some (t264 == 1)) else (some false)) else (some false))) = some r := H
                                    have A149 := Aside0.mk A1490
                                    clear A1490
                                    by_cases c150 : t277 = true
                                    · subst c150
                                      have H1 : (if t272 = 0 then (if t271 = 2 then (some (t264 == (-1))) else (some false)) else (some false)) = some r := by rw [if_pos rfl] at H; exact H
                                      clear H
                                      have H := H1
                                      clear H1
                                      by_cases c151 : t272 = 0
                                      · rw [if_pos c151] at H
                                        have c151b0 : (t272 == 0) = true := beq_iff_eq.mpr c151
                                        have c151b1 : (t272 != 0) = false := bne_eq_false_iff_eq.mpr c151
                                        clear c151
                                        by_cases c152 : t271 = 2
                                        · rw [if_pos c152] at H
                                          have c152b0 : (t271 == 2) = true := beq_iff_eq.mpr c152
                                          have c152b1 : (t271 != 2) = false := bne_eq_false_iff_eq.mpr c152
                                          clear c152
                                          obtain rfl := Option.some.inj H
                                          have hnb153 := NB260_261.out
                                          have hnc153 := NB261_260.out
                                          have hnb154 := NB260_262.out
                                          have hnc154 := NB262_260.out
                                          have hcz155_0 : wc.cell? ⟨gb260, 0, none⟩ = some (.int .i64 a0_0) := (blk_cell BK260.out 0).trans rfl
                                          have hcz155_1 : wc.cell? ⟨gb260, 1, none⟩ = some (.int .u64 a0_1) := (blk_cell BK260.out 1).trans rfl
                                          have hcz155_2 : wc.cell? ⟨gb260, 2, none⟩ = some (.string a0_2) := (blk_cell BK260.out 2).trans rfl
                                          have hfz155_0 := blk_frozen BK260.out 0
                                          have hfz155_1 := blk_frozen BK260.out 1
                                          have hfz155_2 := blk_frozen BK260.out 2
                                          go_wp2_with (first | ((with_reducible refine gate_callee (f := 22) rfl ?_); refine goesL_ (some 111) rfl rfl Tryz.func22 (by kernel_rfl) rfl #[.agg #[.int .i64 a0_0, .int .u64 a0_1, .string a0_2]] rfl (by (try simp only [List.map_toArray, List.map_cons, List.map_nil]); first | done | rfl | (simp only [List.length_drop, List.length_take]; rfl)) ?_; (with_reducible refine (abacuslaw18_isNaN.calls a0_0 a0_1 a0_2 false _ A99.out).mono ?_); rintro e w156 ⟨rfl, hb⟩; refine ⟨_, rfl, ?_⟩; have n0_ := Aside0.mk (blk_below (g := gb260) (o := .cells #[.int .i64 a0_0, .int .u64 a0_1, .string a0_2] 29 (0, 0)) (by (with_reducible repeat (first | refine blk_drewN ?_ _ | refine blk_drew ?_ | refine blk_alloc ?_ _)); exact BK260.out) hb); have n1_ := Aside0.mk (blk_below (g := gb261) (o := .cells #[.int .i64 a1_0, .int .u64 a1_1, .string a1_2] 29 (0, 0)) (by (with_reducible repeat (first | refine blk_drewN ?_ _ | refine blk_drew ?_ | refine blk_alloc ?_ _)); exact BK261.out) hb); have n2_ := Aside0.mk (blk_below (g := gb262) (o := .cells #[.int .i64 a2_0, .int .u64 a2_1, .string a2_2] 29 (0, 0)) (by (with_reducible repeat (first | refine blk_drewN ?_ _ | refine blk_drew ?_ | refine blk_alloc ?_ _)); exact BK262.out) hb); have n3_ := Aside0.mk (below_step (by repeat (first | (with_reducible first | exact HB.out | apply below_alloc | apply pw_below_drewN | apply below_drew1 | refine below_set ?_ GE260.out | refine below_set ?_ GE261.out | refine below_set ?_ GE262.out) | exact HB.out)) hb); clear BK260; clear BK261; clear BK262; clear HB; have BK260 := n0_; have BK261 := n1_; have BK262 := n2_; have HB := n3_; clear n0_ n1_ n2_ n3_; (try clear hb); (try clear hb2); (try clear hk); (try clear hi); have hnb157 := NB261_262.out; have hnc157 := NB262_261.out; have hcz158_0 : w156.cell? ⟨gb261, 0, none⟩ = some (.int .i64 a1_0) := (blk_cell BK261.out 0).trans rfl; have hcz158_1 : w156.cell? ⟨gb261, 1, none⟩ = some (.int .u64 a1_1) := (blk_cell BK261.out 1).trans rfl; have hcz158_2 : w156.cell? ⟨gb261, 2, none⟩ = some (.string a1_2) := (blk_cell BK261.out 2).trans rfl; have hfz158_0 := blk_frozen BK261.out 0; have hfz158_1 := blk_frozen BK261.out 1; have hfz158_2 := blk_frozen BK261.out 2) | ((with_reducible refine gate_callee (f := 22) rfl ?_); refine goesL_ (some 114) rfl rfl Tryz.func22 (by kernel_rfl) rfl #[.agg #[.int .i64 a1_0, .int .u64 a1_1, .string a1_2]] rfl (by (try simp only [List.map_toArray, List.map_cons, List.map_nil]); first | done | rfl | (simp only [List.length_drop, List.length_take]; rfl)) ?_; (with_reducible refine (abacuslaw18_isNaN.calls a1_0 a1_1 a1_2 true _ A149.out).mono ?_); rintro e w159 ⟨rfl, hb⟩; refine ⟨_, rfl, ?_⟩; have n0_ := Aside0.mk (blk_below (g := gb260) (o := .cells #[.int .i64 a0_0, .int .u64 a0_1, .string a0_2] 29 (0, 0)) (by (with_reducible repeat (first | refine blk_drewN ?_ _ | refine blk_drew ?_ | refine blk_alloc ?_ _)); exact BK260.out) hb); have n1_ := Aside0.mk (blk_below (g := gb261) (o := .cells #[.int .i64 a1_0, .int .u64 a1_1, .string a1_2] 29 (0, 0)) (by (with_reducible repeat (first | refine blk_drewN ?_ _ | refine blk_drew ?_ | refine blk_alloc ?_ _)); exact BK261.out) hb); have n2_ := Aside0.mk (blk_below (g := gb262) (o := .cells #[.int .i64 a2_0, .int .u64 a2_1, .string a2_2] 29 (0, 0)) (by (with_reducible repeat (first | refine blk_drewN ?_ _ | refine blk_drew ?_ | refine blk_alloc ?_ _)); exact BK262.out) hb); have n3_ := Aside0.mk (below_step (by repeat (first | (with_reducible first | exact HB.out | apply below_alloc | apply pw_below_drewN | apply below_drew1 | refine below_set ?_ GE260.out | refine below_set ?_ GE261.out | refine below_set ?_ GE262.out) | exact HB.out)) hb); clear BK260; clear BK261; clear BK262; clear HB; have BK260 := n0_; have BK261 := n1_; have BK262 := n2_; have HB := n3_; clear n0_ n1_ n2_ n3_; (try clear hb); (try clear hb2); (try clear hk); (try clear hi)))
                                          go_ret
                                          exact ⟨by first | rfl | (simp [errW_none, errW_some] <;> rfl) | (simp only [append_nothing]; done) | (simp only [append_nothing]; rfl) | (simp [*, errW_none, errW_some] <;> rfl), by repeat (first | (with_reducible first | exact HB.out | apply below_alloc | apply pw_below_drewN | apply below_drew1 | refine below_set ?_ GE260.out | refine below_set ?_ GE261.out | refine below_set ?_ GE262.out) | exact HB.out)⟩
                                        · rw [if_neg c152] at H
                                          have c152b0 : (t271 == 2) = false := beq_eq_false_iff_ne.mpr c152
                                          have c152b1 : (t271 != 2) = true := bne_iff_ne.mpr c152
                                          obtain rfl := Option.some.inj H
                                          have hnb160 := NB260_261.out
                                          have hnc160 := NB261_260.out
                                          have hnb161 := NB260_262.out
                                          have hnc161 := NB262_260.out
                                          have hcz162_0 : wc.cell? ⟨gb260, 0, none⟩ = some (.int .i64 a0_0) := (blk_cell BK260.out 0).trans rfl
                                          have hcz162_1 : wc.cell? ⟨gb260, 1, none⟩ = some (.int .u64 a0_1) := (blk_cell BK260.out 1).trans rfl
                                          have hcz162_2 : wc.cell? ⟨gb260, 2, none⟩ = some (.string a0_2) := (blk_cell BK260.out 2).trans rfl
                                          have hfz162_0 := blk_frozen BK260.out 0
                                          have hfz162_1 := blk_frozen BK260.out 1
                                          have hfz162_2 := blk_frozen BK260.out 2
                                          go_wp2_with (first | ((with_reducible refine gate_callee (f := 22) rfl ?_); refine goesL_ (some 111) rfl rfl Tryz.func22 (by kernel_rfl) rfl #[.agg #[.int .i64 a0_0, .int .u64 a0_1, .string a0_2]] rfl (by (try simp only [List.map_toArray, List.map_cons, List.map_nil]); first | done | rfl | (simp only [List.length_drop, List.length_take]; rfl)) ?_; (with_reducible refine (abacuslaw18_isNaN.calls a0_0 a0_1 a0_2 false _ A99.out).mono ?_); rintro e w163 ⟨rfl, hb⟩; refine ⟨_, rfl, ?_⟩; have n0_ := Aside0.mk (blk_below (g := gb260) (o := .cells #[.int .i64 a0_0, .int .u64 a0_1, .string a0_2] 29 (0, 0)) (by (with_reducible repeat (first | refine blk_drewN ?_ _ | refine blk_drew ?_ | refine blk_alloc ?_ _)); exact BK260.out) hb); have n1_ := Aside0.mk (blk_below (g := gb261) (o := .cells #[.int .i64 a1_0, .int .u64 a1_1, .string a1_2] 29 (0, 0)) (by (with_reducible repeat (first | refine blk_drewN ?_ _ | refine blk_drew ?_ | refine blk_alloc ?_ _)); exact BK261.out) hb); have n2_ := Aside0.mk (blk_below (g := gb262) (o := .cells #[.int .i64 a2_0, .int .u64 a2_1, .string a2_2] 29 (0, 0)) (by (with_reducible repeat (first | refine blk_drewN ?_ _ | refine blk_drew ?_ | refine blk_alloc ?_ _)); exact BK262.out) hb); have n3_ := Aside0.mk (below_step (by repeat (first | (with_reducible first | exact HB.out | apply below_alloc | apply pw_below_drewN | apply below_drew1 | refine below_set ?_ GE260.out | refine below_set ?_ GE261.out | refine below_set ?_ GE262.out) | exact HB.out)) hb); clear BK260; clear BK261; clear BK262; clear HB; have BK260 := n0_; have BK261 := n1_; have BK262 := n2_; have HB := n3_; clear n0_ n1_ n2_ n3_; (try clear hb); (try clear hb2); (try clear hk); (try clear hi); have hnb164 := NB261_262.out; have hnc164 := NB262_261.out; have hcz165_0 : w163.cell? ⟨gb261, 0, none⟩ = some (.int .i64 a1_0) := (blk_cell BK261.out 0).trans rfl; have hcz165_1 : w163.cell? ⟨gb261, 1, none⟩ = some (.int .u64 a1_1) := (blk_cell BK261.out 1).trans rfl; have hcz165_2 : w163.cell? ⟨gb261, 2, none⟩ = some (.string a1_2) := (blk_cell BK261.out 2).trans rfl; have hfz165_0 := blk_frozen BK261.out 0; have hfz165_1 := blk_frozen BK261.out 1; have hfz165_2 := blk_frozen BK261.out 2) | ((with_reducible refine gate_callee (f := 22) rfl ?_); refine goesL_ (some 114) rfl rfl Tryz.func22 (by kernel_rfl) rfl #[.agg #[.int .i64 a1_0, .int .u64 a1_1, .string a1_2]] rfl (by (try simp only [List.map_toArray, List.map_cons, List.map_nil]); first | done | rfl | (simp only [List.length_drop, List.length_take]; rfl)) ?_; (with_reducible refine (abacuslaw18_isNaN.calls a1_0 a1_1 a1_2 true _ A149.out).mono ?_); rintro e w166 ⟨rfl, hb⟩; refine ⟨_, rfl, ?_⟩; have n0_ := Aside0.mk (blk_below (g := gb260) (o := .cells #[.int .i64 a0_0, .int .u64 a0_1, .string a0_2] 29 (0, 0)) (by (with_reducible repeat (first | refine blk_drewN ?_ _ | refine blk_drew ?_ | refine blk_alloc ?_ _)); exact BK260.out) hb); have n1_ := Aside0.mk (blk_below (g := gb261) (o := .cells #[.int .i64 a1_0, .int .u64 a1_1, .string a1_2] 29 (0, 0)) (by (with_reducible repeat (first | refine blk_drewN ?_ _ | refine blk_drew ?_ | refine blk_alloc ?_ _)); exact BK261.out) hb); have n2_ := Aside0.mk (blk_below (g := gb262) (o := .cells #[.int .i64 a2_0, .int .u64 a2_1, .string a2_2] 29 (0, 0)) (by (with_reducible repeat (first | refine blk_drewN ?_ _ | refine blk_drew ?_ | refine blk_alloc ?_ _)); exact BK262.out) hb); have n3_ := Aside0.mk (below_step (by repeat (first | (with_reducible first | exact HB.out | apply below_alloc | apply pw_below_drewN | apply below_drew1 | refine below_set ?_ GE260.out | refine below_set ?_ GE261.out | refine below_set ?_ GE262.out) | exact HB.out)) hb); clear BK260; clear BK261; clear BK262; clear HB; have BK260 := n0_; have BK261 := n1_; have BK262 := n2_; have HB := n3_; clear n0_ n1_ n2_ n3_; (try clear hb); (try clear hb2); (try clear hk); (try clear hi)))
                                          go_ret
                                          exact ⟨by first | rfl | (simp [errW_none, errW_some] <;> rfl) | (simp only [append_nothing]; done) | (simp only [append_nothing]; rfl) | (simp [*, errW_none, errW_some] <;> rfl), by repeat (first | (with_reducible first | exact HB.out | apply below_alloc | apply pw_below_drewN | apply below_drew1 | refine below_set ?_ GE260.out | refine below_set ?_ GE261.out | refine below_set ?_ GE262.out) | exact HB.out)⟩
                                      · rw [if_neg c151] at H
                                        have c151b0 : (t272 == 0) = false := beq_eq_false_iff_ne.mpr c151
                                        have c151b1 : (t272 != 0) = true := bne_iff_ne.mpr c151
                                        obtain rfl := Option.some.inj H
                                        have hnb167 := NB260_261.out
                                        have hnc167 := NB261_260.out
                                        have hnb168 := NB260_262.out
                                        have hnc168 := NB262_260.out
                                        have hcz169_0 : wc.cell? ⟨gb260, 0, none⟩ = some (.int .i64 a0_0) := (blk_cell BK260.out 0).trans rfl
                                        have hcz169_1 : wc.cell? ⟨gb260, 1, none⟩ = some (.int .u64 a0_1) := (blk_cell BK260.out 1).trans rfl
                                        have hcz169_2 : wc.cell? ⟨gb260, 2, none⟩ = some (.string a0_2) := (blk_cell BK260.out 2).trans rfl
                                        have hfz169_0 := blk_frozen BK260.out 0
                                        have hfz169_1 := blk_frozen BK260.out 1
                                        have hfz169_2 := blk_frozen BK260.out 2
                                        go_wp2_with (first | ((with_reducible refine gate_callee (f := 22) rfl ?_); refine goesL_ (some 111) rfl rfl Tryz.func22 (by kernel_rfl) rfl #[.agg #[.int .i64 a0_0, .int .u64 a0_1, .string a0_2]] rfl (by (try simp only [List.map_toArray, List.map_cons, List.map_nil]); first | done | rfl | (simp only [List.length_drop, List.length_take]; rfl)) ?_; (with_reducible refine (abacuslaw18_isNaN.calls a0_0 a0_1 a0_2 false _ A99.out).mono ?_); rintro e w170 ⟨rfl, hb⟩; refine ⟨_, rfl, ?_⟩; have n0_ := Aside0.mk (blk_below (g := gb260) (o := .cells #[.int .i64 a0_0, .int .u64 a0_1, .string a0_2] 29 (0, 0)) (by (with_reducible repeat (first | refine blk_drewN ?_ _ | refine blk_drew ?_ | refine blk_alloc ?_ _)); exact BK260.out) hb); have n1_ := Aside0.mk (blk_below (g := gb261) (o := .cells #[.int .i64 a1_0, .int .u64 a1_1, .string a1_2] 29 (0, 0)) (by (with_reducible repeat (first | refine blk_drewN ?_ _ | refine blk_drew ?_ | refine blk_alloc ?_ _)); exact BK261.out) hb); have n2_ := Aside0.mk (blk_below (g := gb262) (o := .cells #[.int .i64 a2_0, .int .u64 a2_1, .string a2_2] 29 (0, 0)) (by (with_reducible repeat (first | refine blk_drewN ?_ _ | refine blk_drew ?_ | refine blk_alloc ?_ _)); exact BK262.out) hb); have n3_ := Aside0.mk (below_step (by repeat (first | (with_reducible first | exact HB.out | apply below_alloc | apply pw_below_drewN | apply below_drew1 | refine below_set ?_ GE260.out | refine below_set ?_ GE261.out | refine below_set ?_ GE262.out) | exact HB.out)) hb); clear BK260; clear BK261; clear BK262; clear HB; have BK260 := n0_; have BK261 := n1_; have BK262 := n2_; have HB := n3_; clear n0_ n1_ n2_ n3_; (try clear hb); (try clear hb2); (try clear hk); (try clear hi); have hnb171 := NB261_262.out; have hnc171 := NB262_261.out; have hcz172_0 : w170.cell? ⟨gb261, 0, none⟩ = some (.int .i64 a1_0) := (blk_cell BK261.out 0).trans rfl; have hcz172_1 : w170.cell? ⟨gb261, 1, none⟩ = some (.int .u64 a1_1) := (blk_cell BK261.out 1).trans rfl; have hcz172_2 : w170.cell? ⟨gb261, 2, none⟩ = some (.string a1_2) := (blk_cell BK261.out 2).trans rfl; have hfz172_0 := blk_frozen BK261.out 0; have hfz172_1 := blk_frozen BK261.out 1; have hfz172_2 := blk_frozen BK261.out 2) | ((with_reducible refine gate_callee (f := 22) rfl ?_); refine goesL_ (some 114) rfl rfl Tryz.func22 (by kernel_rfl) rfl #[.agg #[.int .i64 a1_0, .int .u64 a1_1, .string a1_2]] rfl (by (try simp only [List.map_toArray, List.map_cons, List.map_nil]); first | done | rfl | (simp only [List.length_drop, List.length_take]; rfl)) ?_; (with_reducible refine (abacuslaw18_isNaN.calls a1_0 a1_1 a1_2 true _ A149.out).mono ?_); rintro e w173 ⟨rfl, hb⟩; refine ⟨_, rfl, ?_⟩; have n0_ := Aside0.mk (blk_below (g := gb260) (o := .cells #[.int .i64 a0_0, .int .u64 a0_1, .string a0_2] 29 (0, 0)) (by (with_reducible repeat (first | refine blk_drewN ?_ _ | refine blk_drew ?_ | refine blk_alloc ?_ _)); exact BK260.out) hb); have n1_ := Aside0.mk (blk_below (g := gb261) (o := .cells #[.int .i64 a1_0, .int .u64 a1_1, .string a1_2] 29 (0, 0)) (by (with_reducible repeat (first | refine blk_drewN ?_ _ | refine blk_drew ?_ | refine blk_alloc ?_ _)); exact BK261.out) hb); have n2_ := Aside0.mk (blk_below (g := gb262) (o := .cells #[.int .i64 a2_0, .int .u64 a2_1, .string a2_2] 29 (0, 0)) (by (with_reducible repeat (first | refine blk_drewN ?_ _ | refine blk_drew ?_ | refine blk_alloc ?_ _)); exact BK262.out) hb); have n3_ := Aside0.mk (below_step (by repeat (first | (with_reducible first | exact HB.out | apply below_alloc | apply pw_below_drewN | apply below_drew1 | refine below_set ?_ GE260.out | refine below_set ?_ GE261.out | refine below_set ?_ GE262.out) | exact HB.out)) hb); clear BK260; clear BK261; clear BK262; clear HB; have BK260 := n0_; have BK261 := n1_; have BK262 := n2_; have HB := n3_; clear n0_ n1_ n2_ n3_; (try clear hb); (try clear hb2); (try clear hk); (try clear hi)))
                                        go_ret
                                        exact ⟨by first | rfl | (simp [errW_none, errW_some] <;> rfl) | (simp only [append_nothing]; done) | (simp only [append_nothing]; rfl) | (simp [*, errW_none, errW_some] <;> rfl), by repeat (first | (with_reducible first | exact HB.out | apply below_alloc | apply pw_below_drewN | apply below_drew1 | refine below_set ?_ GE260.out | refine below_set ?_ GE261.out | refine below_set ?_ GE262.out) | exact HB.out)⟩
                                    · replace c150 := Bool.eq_false_iff.mpr c150
                                      subst c150
                                      have H1 : (if t272 = 0 then (if t271 = 2 then (some (t264 == 1)) else (some false)) else (some false)) = some r := by rw [if_neg (show ¬ (false = true) by decide)] at H; exact H
                                      clear H
                                      have H := H1
                                      clear H1
                                      by_cases c174 : t272 = 0
                                      · rw [if_pos c174] at H
                                        have c174b0 : (t272 == 0) = true := beq_iff_eq.mpr c174
                                        have c174b1 : (t272 != 0) = false := bne_eq_false_iff_eq.mpr c174
                                        clear c174
                                        by_cases c175 : t271 = 2
                                        · rw [if_pos c175] at H
                                          have c175b0 : (t271 == 2) = true := beq_iff_eq.mpr c175
                                          have c175b1 : (t271 != 2) = false := bne_eq_false_iff_eq.mpr c175
                                          clear c175
                                          obtain rfl := Option.some.inj H
                                          have hnb176 := NB260_261.out
                                          have hnc176 := NB261_260.out
                                          have hnb177 := NB260_262.out
                                          have hnc177 := NB262_260.out
                                          have hcz178_0 : wc.cell? ⟨gb260, 0, none⟩ = some (.int .i64 a0_0) := (blk_cell BK260.out 0).trans rfl
                                          have hcz178_1 : wc.cell? ⟨gb260, 1, none⟩ = some (.int .u64 a0_1) := (blk_cell BK260.out 1).trans rfl
                                          have hcz178_2 : wc.cell? ⟨gb260, 2, none⟩ = some (.string a0_2) := (blk_cell BK260.out 2).trans rfl
                                          have hfz178_0 := blk_frozen BK260.out 0
                                          have hfz178_1 := blk_frozen BK260.out 1
                                          have hfz178_2 := blk_frozen BK260.out 2
                                          go_wp2_with (first | ((with_reducible refine gate_callee (f := 22) rfl ?_); refine goesL_ (some 111) rfl rfl Tryz.func22 (by kernel_rfl) rfl #[.agg #[.int .i64 a0_0, .int .u64 a0_1, .string a0_2]] rfl (by (try simp only [List.map_toArray, List.map_cons, List.map_nil]); first | done | rfl | (simp only [List.length_drop, List.length_take]; rfl)) ?_; (with_reducible refine (abacuslaw18_isNaN.calls a0_0 a0_1 a0_2 false _ A99.out).mono ?_); rintro e w179 ⟨rfl, hb⟩; refine ⟨_, rfl, ?_⟩; have n0_ := Aside0.mk (blk_below (g := gb260) (o := .cells #[.int .i64 a0_0, .int .u64 a0_1, .string a0_2] 29 (0, 0)) (by (with_reducible repeat (first | refine blk_drewN ?_ _ | refine blk_drew ?_ | refine blk_alloc ?_ _)); exact BK260.out) hb); have n1_ := Aside0.mk (blk_below (g := gb261) (o := .cells #[.int .i64 a1_0, .int .u64 a1_1, .string a1_2] 29 (0, 0)) (by (with_reducible repeat (first | refine blk_drewN ?_ _ | refine blk_drew ?_ | refine blk_alloc ?_ _)); exact BK261.out) hb); have n2_ := Aside0.mk (blk_below (g := gb262) (o := .cells #[.int .i64 a2_0, .int .u64 a2_1, .string a2_2] 29 (0, 0)) (by (with_reducible repeat (first | refine blk_drewN ?_ _ | refine blk_drew ?_ | refine blk_alloc ?_ _)); exact BK262.out) hb); have n3_ := Aside0.mk (below_step (by repeat (first | (with_reducible first | exact HB.out | apply below_alloc | apply pw_below_drewN | apply below_drew1 | refine below_set ?_ GE260.out | refine below_set ?_ GE261.out | refine below_set ?_ GE262.out) | exact HB.out)) hb); clear BK260; clear BK261; clear BK262; clear HB; have BK260 := n0_; have BK261 := n1_; have BK262 := n2_; have HB := n3_; clear n0_ n1_ n2_ n3_; (try clear hb); (try clear hb2); (try clear hk); (try clear hi); have hnb180 := NB261_262.out; have hnc180 := NB262_261.out; have hcz181_0 : w179.cell? ⟨gb261, 0, none⟩ = some (.int .i64 a1_0) := (blk_cell BK261.out 0).trans rfl; have hcz181_1 : w179.cell? ⟨gb261, 1, none⟩ = some (.int .u64 a1_1) := (blk_cell BK261.out 1).trans rfl; have hcz181_2 : w179.cell? ⟨gb261, 2, none⟩ = some (.string a1_2) := (blk_cell BK261.out 2).trans rfl; have hfz181_0 := blk_frozen BK261.out 0; have hfz181_1 := blk_frozen BK261.out 1; have hfz181_2 := blk_frozen BK261.out 2) | ((with_reducible refine gate_callee (f := 22) rfl ?_); refine goesL_ (some 114) rfl rfl Tryz.func22 (by kernel_rfl) rfl #[.agg #[.int .i64 a1_0, .int .u64 a1_1, .string a1_2]] rfl (by (try simp only [List.map_toArray, List.map_cons, List.map_nil]); first | done | rfl | (simp only [List.length_drop, List.length_take]; rfl)) ?_; (with_reducible refine (abacuslaw18_isNaN.calls a1_0 a1_1 a1_2 false _ A149.out).mono ?_); rintro e w182 ⟨rfl, hb⟩; refine ⟨_, rfl, ?_⟩; have n0_ := Aside0.mk (blk_below (g := gb260) (o := .cells #[.int .i64 a0_0, .int .u64 a0_1, .string a0_2] 29 (0, 0)) (by (with_reducible repeat (first | refine blk_drewN ?_ _ | refine blk_drew ?_ | refine blk_alloc ?_ _)); exact BK260.out) hb); have n1_ := Aside0.mk (blk_below (g := gb261) (o := .cells #[.int .i64 a1_0, .int .u64 a1_1, .string a1_2] 29 (0, 0)) (by (with_reducible repeat (first | refine blk_drewN ?_ _ | refine blk_drew ?_ | refine blk_alloc ?_ _)); exact BK261.out) hb); have n2_ := Aside0.mk (blk_below (g := gb262) (o := .cells #[.int .i64 a2_0, .int .u64 a2_1, .string a2_2] 29 (0, 0)) (by (with_reducible repeat (first | refine blk_drewN ?_ _ | refine blk_drew ?_ | refine blk_alloc ?_ _)); exact BK262.out) hb); have n3_ := Aside0.mk (below_step (by repeat (first | (with_reducible first | exact HB.out | apply below_alloc | apply pw_below_drewN | apply below_drew1 | refine below_set ?_ GE260.out | refine below_set ?_ GE261.out | refine below_set ?_ GE262.out) | exact HB.out)) hb); clear BK260; clear BK261; clear BK262; clear HB; have BK260 := n0_; have BK261 := n1_; have BK262 := n2_; have HB := n3_; clear n0_ n1_ n2_ n3_; (try clear hb); (try clear hb2); (try clear hk); (try clear hi)))
                                          go_ret
                                          exact ⟨by first | rfl | (simp [errW_none, errW_some] <;> rfl) | (simp only [append_nothing]; done) | (simp only [append_nothing]; rfl) | (simp [*, errW_none, errW_some] <;> rfl), by repeat (first | (with_reducible first | exact HB.out | apply below_alloc | apply pw_below_drewN | apply below_drew1 | refine below_set ?_ GE260.out | refine below_set ?_ GE261.out | refine below_set ?_ GE262.out) | exact HB.out)⟩
                                        · rw [if_neg c175] at H
                                          have c175b0 : (t271 == 2) = false := beq_eq_false_iff_ne.mpr c175
                                          have c175b1 : (t271 != 2) = true := bne_iff_ne.mpr c175
                                          obtain rfl := Option.some.inj H
                                          have hnb183 := NB260_261.out
                                          have hnc183 := NB261_260.out
                                          have hnb184 := NB260_262.out
                                          have hnc184 := NB262_260.out
                                          have hcz185_0 : wc.cell? ⟨gb260, 0, none⟩ = some (.int .i64 a0_0) := (blk_cell BK260.out 0).trans rfl
                                          have hcz185_1 : wc.cell? ⟨gb260, 1, none⟩ = some (.int .u64 a0_1) := (blk_cell BK260.out 1).trans rfl
                                          have hcz185_2 : wc.cell? ⟨gb260, 2, none⟩ = some (.string a0_2) := (blk_cell BK260.out 2).trans rfl
                                          have hfz185_0 := blk_frozen BK260.out 0
                                          have hfz185_1 := blk_frozen BK260.out 1
                                          have hfz185_2 := blk_frozen BK260.out 2
                                          go_wp2_with (first | ((with_reducible refine gate_callee (f := 22) rfl ?_); refine goesL_ (some 111) rfl rfl Tryz.func22 (by kernel_rfl) rfl #[.agg #[.int .i64 a0_0, .int .u64 a0_1, .string a0_2]] rfl (by (try simp only [List.map_toArray, List.map_cons, List.map_nil]); first | done | rfl | (simp only [List.length_drop, List.length_take]; rfl)) ?_; (with_reducible refine (abacuslaw18_isNaN.calls a0_0 a0_1 a0_2 false _ A99.out).mono ?_); rintro e w186 ⟨rfl, hb⟩; refine ⟨_, rfl, ?_⟩; have n0_ := Aside0.mk (blk_below (g := gb260) (o := .cells #[.int .i64 a0_0, .int .u64 a0_1, .string a0_2] 29 (0, 0)) (by (with_reducible repeat (first | refine blk_drewN ?_ _ | refine blk_drew ?_ | refine blk_alloc ?_ _)); exact BK260.out) hb); have n1_ := Aside0.mk (blk_below (g := gb261) (o := .cells #[.int .i64 a1_0, .int .u64 a1_1, .string a1_2] 29 (0, 0)) (by (with_reducible repeat (first | refine blk_drewN ?_ _ | refine blk_drew ?_ | refine blk_alloc ?_ _)); exact BK261.out) hb); have n2_ := Aside0.mk (blk_below (g := gb262) (o := .cells #[.int .i64 a2_0, .int .u64 a2_1, .string a2_2] 29 (0, 0)) (by (with_reducible repeat (first | refine blk_drewN ?_ _ | refine blk_drew ?_ | refine blk_alloc ?_ _)); exact BK262.out) hb); have n3_ := Aside0.mk (below_step (by repeat (first | (with_reducible first | exact HB.out | apply below_alloc | apply pw_below_drewN | apply below_drew1 | refine below_set ?_ GE260.out | refine below_set ?_ GE261.out | refine below_set ?_ GE262.out) | exact HB.out)) hb); clear BK260; clear BK261; clear BK262; clear HB; have BK260 := n0_; have BK261 := n1_; have BK262 := n2_; have HB := n3_; clear n0_ n1_ n2_ n3_; (try clear hb); (try clear hb2); (try clear hk); (try clear hi); have hnb187 := NB261_262.out; have hnc187 := NB262_261.out; have hcz188_0 : w186.cell? ⟨gb261, 0, none⟩ = some (.int .i64 a1_0) := (blk_cell BK261.out 0).trans rfl; have hcz188_1 : w186.cell? ⟨gb261, 1, none⟩ = some (.int .u64 a1_1) := (blk_cell BK261.out 1).trans rfl; have hcz188_2 : w186.cell? ⟨gb261, 2, none⟩ = some (.string a1_2) := (blk_cell BK261.out 2).trans rfl; have hfz188_0 := blk_frozen BK261.out 0; have hfz188_1 := blk_frozen BK261.out 1; have hfz188_2 := blk_frozen BK261.out 2) | ((with_reducible refine gate_callee (f := 22) rfl ?_); refine goesL_ (some 114) rfl rfl Tryz.func22 (by kernel_rfl) rfl #[.agg #[.int .i64 a1_0, .int .u64 a1_1, .string a1_2]] rfl (by (try simp only [List.map_toArray, List.map_cons, List.map_nil]); first | done | rfl | (simp only [List.length_drop, List.length_take]; rfl)) ?_; (with_reducible refine (abacuslaw18_isNaN.calls a1_0 a1_1 a1_2 false _ A149.out).mono ?_); rintro e w189 ⟨rfl, hb⟩; refine ⟨_, rfl, ?_⟩; have n0_ := Aside0.mk (blk_below (g := gb260) (o := .cells #[.int .i64 a0_0, .int .u64 a0_1, .string a0_2] 29 (0, 0)) (by (with_reducible repeat (first | refine blk_drewN ?_ _ | refine blk_drew ?_ | refine blk_alloc ?_ _)); exact BK260.out) hb); have n1_ := Aside0.mk (blk_below (g := gb261) (o := .cells #[.int .i64 a1_0, .int .u64 a1_1, .string a1_2] 29 (0, 0)) (by (with_reducible repeat (first | refine blk_drewN ?_ _ | refine blk_drew ?_ | refine blk_alloc ?_ _)); exact BK261.out) hb); have n2_ := Aside0.mk (blk_below (g := gb262) (o := .cells #[.int .i64 a2_0, .int .u64 a2_1, .string a2_2] 29 (0, 0)) (by (with_reducible repeat (first | refine blk_drewN ?_ _ | refine blk_drew ?_ | refine blk_alloc ?_ _)); exact BK262.out) hb); have n3_ := Aside0.mk (below_step (by repeat (first | (with_reducible first | exact HB.out | apply below_alloc | apply pw_below_drewN | apply below_drew1 | refine below_set ?_ GE260.out | refine below_set ?_ GE261.out | refine below_set ?_ GE262.out) | exact HB.out)) hb); clear BK260; clear BK261; clear BK262; clear HB; have BK260 := n0_; have BK261 := n1_; have BK262 := n2_; have HB := n3_; clear n0_ n1_ n2_ n3_; (try clear hb); (try clear hb2); (try clear hk); (try clear hi)))
                                          go_ret
                                          exact ⟨by first | rfl | (simp [errW_none, errW_some] <;> rfl) | (simp only [append_nothing]; done) | (simp only [append_nothing]; rfl) | (simp [*, errW_none, errW_some] <;> rfl), by repeat (first | (with_reducible first | exact HB.out | apply below_alloc | apply pw_below_drewN | apply below_drew1 | refine below_set ?_ GE260.out | refine below_set ?_ GE261.out | refine below_set ?_ GE262.out) | exact HB.out)⟩
                                      · rw [if_neg c174] at H
                                        have c174b0 : (t272 == 0) = false := beq_eq_false_iff_ne.mpr c174
                                        have c174b1 : (t272 != 0) = true := bne_iff_ne.mpr c174
                                        obtain rfl := Option.some.inj H
                                        have hnb190 := NB260_261.out
                                        have hnc190 := NB261_260.out
                                        have hnb191 := NB260_262.out
                                        have hnc191 := NB262_260.out
                                        have hcz192_0 : wc.cell? ⟨gb260, 0, none⟩ = some (.int .i64 a0_0) := (blk_cell BK260.out 0).trans rfl
                                        have hcz192_1 : wc.cell? ⟨gb260, 1, none⟩ = some (.int .u64 a0_1) := (blk_cell BK260.out 1).trans rfl
                                        have hcz192_2 : wc.cell? ⟨gb260, 2, none⟩ = some (.string a0_2) := (blk_cell BK260.out 2).trans rfl
                                        have hfz192_0 := blk_frozen BK260.out 0
                                        have hfz192_1 := blk_frozen BK260.out 1
                                        have hfz192_2 := blk_frozen BK260.out 2
                                        go_wp2_with (first | ((with_reducible refine gate_callee (f := 22) rfl ?_); refine goesL_ (some 111) rfl rfl Tryz.func22 (by kernel_rfl) rfl #[.agg #[.int .i64 a0_0, .int .u64 a0_1, .string a0_2]] rfl (by (try simp only [List.map_toArray, List.map_cons, List.map_nil]); first | done | rfl | (simp only [List.length_drop, List.length_take]; rfl)) ?_; (with_reducible refine (abacuslaw18_isNaN.calls a0_0 a0_1 a0_2 false _ A99.out).mono ?_); rintro e w193 ⟨rfl, hb⟩; refine ⟨_, rfl, ?_⟩; have n0_ := Aside0.mk (blk_below (g := gb260) (o := .cells #[.int .i64 a0_0, .int .u64 a0_1, .string a0_2] 29 (0, 0)) (by (with_reducible repeat (first | refine blk_drewN ?_ _ | refine blk_drew ?_ | refine blk_alloc ?_ _)); exact BK260.out) hb); have n1_ := Aside0.mk (blk_below (g := gb261) (o := .cells #[.int .i64 a1_0, .int .u64 a1_1, .string a1_2] 29 (0, 0)) (by (with_reducible repeat (first | refine blk_drewN ?_ _ | refine blk_drew ?_ | refine blk_alloc ?_ _)); exact BK261.out) hb); have n2_ := Aside0.mk (blk_below (g := gb262) (o := .cells #[.int .i64 a2_0, .int .u64 a2_1, .string a2_2] 29 (0, 0)) (by (with_reducible repeat (first | refine blk_drewN ?_ _ | refine blk_drew ?_ | refine blk_alloc ?_ _)); exact BK262.out) hb); have n3_ := Aside0.mk (below_step (by repeat (first | (with_reducible first | exact HB.out | apply below_alloc | apply pw_below_drewN | apply below_drew1 | refine below_set ?_ GE260.out | refine below_set ?_ GE261.out | refine below_set ?_ GE262.out) | exact HB.out)) hb); clear BK260; clear BK261; clear BK262; clear HB; have BK260 := n0_; have BK261 := n1_; have BK262 := n2_; have HB := n3_; clear n0_ n1_ n2_ n3_; (try clear hb); (try clear hb2); (try clear hk); (try clear hi); have hnb194 := NB261_262.out; have hnc194 := NB262_261.out; have hcz195_0 : w193.cell? ⟨gb261, 0, none⟩ = some (.int .i64 a1_0) := (blk_cell BK261.out 0).trans rfl; have hcz195_1 : w193.cell? ⟨gb261, 1, none⟩ = some (.int .u64 a1_1) := (blk_cell BK261.out 1).trans rfl; have hcz195_2 : w193.cell? ⟨gb261, 2, none⟩ = some (.string a1_2) := (blk_cell BK261.out 2).trans rfl; have hfz195_0 := blk_frozen BK261.out 0; have hfz195_1 := blk_frozen BK261.out 1; have hfz195_2 := blk_frozen BK261.out 2) | ((with_reducible refine gate_callee (f := 22) rfl ?_); refine goesL_ (some 114) rfl rfl Tryz.func22 (by kernel_rfl) rfl #[.agg #[.int .i64 a1_0, .int .u64 a1_1, .string a1_2]] rfl (by (try simp only [List.map_toArray, List.map_cons, List.map_nil]); first | done | rfl | (simp only [List.length_drop, List.length_take]; rfl)) ?_; (with_reducible refine (abacuslaw18_isNaN.calls a1_0 a1_1 a1_2 false _ A149.out).mono ?_); rintro e w196 ⟨rfl, hb⟩; refine ⟨_, rfl, ?_⟩; have n0_ := Aside0.mk (blk_below (g := gb260) (o := .cells #[.int .i64 a0_0, .int .u64 a0_1, .string a0_2] 29 (0, 0)) (by (with_reducible repeat (first | refine blk_drewN ?_ _ | refine blk_drew ?_ | refine blk_alloc ?_ _)); exact BK260.out) hb); have n1_ := Aside0.mk (blk_below (g := gb261) (o := .cells #[.int .i64 a1_0, .int .u64 a1_1, .string a1_2] 29 (0, 0)) (by (with_reducible repeat (first | refine blk_drewN ?_ _ | refine blk_drew ?_ | refine blk_alloc ?_ _)); exact BK261.out) hb); have n2_ := Aside0.mk (blk_below (g := gb262) (o := .cells #[.int .i64 a2_0, .int .u64 a2_1, .string a2_2] 29 (0, 0)) (by (with_reducible repeat (first | refine blk_drewN ?_ _ | refine blk_drew ?_ | refine blk_alloc ?_ _)); exact BK262.out) hb); have n3_ := Aside0.mk (below_step (by repeat (first | (with_reducible first | exact HB.out | apply below_alloc | apply pw_below_drewN | apply below_drew1 | refine below_set ?_ GE260.out | refine below_set ?_ GE261.out | refine below_set ?_ GE262.out) | exact HB.out)) hb); clear BK260; clear BK261; clear BK262; clear HB; have BK260 := n0_; have BK261 := n1_; have BK262 := n2_; have HB := n3_; clear n0_ n1_ n2_ n3_; (try clear hb); (try clear hb2); (try clear hk); (try clear hi)))
                                        go_ret
                                        exact ⟨by first | rfl | (simp [errW_none, errW_some] <;> rfl) | (simp only [append_nothing]; done) | (simp only [append_nothing]; rfl) | (simp [*, errW_none, errW_some] <;> rfl), by repeat (first | (with_reducible first | exact HB.out | apply below_alloc | apply pw_below_drewN | apply below_drew1 | refine below_set ?_ GE260.out | refine below_set ?_ GE261.out | refine below_set ?_ GE262.out) | exact HB.out)⟩
                                · replace c98 := Bool.eq_false_iff.mpr c98
                                  subst c98
                                  have H1 : (if t272 = 0 then (some (t271 == t264)) else (some false)) = some r := by rw [if_neg (show ¬ (false = true) by decide)] at H; exact H
                                  clear H
                                  have H := H1
                                  clear H1
                                  by_cases c197 : t272 = 0
                                  · rw [if_pos c197] at H
                                    have c197b0 : (t272 == 0) = true := beq_iff_eq.mpr c197
                                    have c197b1 : (t272 != 0) = false := bne_eq_false_iff_eq.mpr c197
                                    clear c197
                                    obtain rfl := Option.some.inj H
                                    go_wp2
                                    go_ret
                                    exact ⟨by first | rfl | (simp [errW_none, errW_some] <;> rfl) | (simp only [append_nothing]; done) | (simp only [append_nothing]; rfl) | (simp [*, errW_none, errW_some] <;> rfl), by repeat (first | (with_reducible first | exact HB.out | apply below_alloc | apply pw_below_drewN | apply below_drew1 | refine below_set ?_ GE260.out | refine below_set ?_ GE261.out | refine below_set ?_ GE262.out) | exact HB.out)⟩
                                  · rw [if_neg c197] at H
                                    have c197b0 : (t272 == 0) = false := beq_eq_false_iff_ne.mpr c197
                                    have c197b1 : (t272 != 0) = true := bne_iff_ne.mpr c197
                                    obtain rfl := Option.some.inj H
                                    go_wp2
                                    go_ret
                                    exact ⟨by first | rfl | (simp [errW_none, errW_some] <;> rfl) | (simp only [append_nothing]; done) | (simp only [append_nothing]; rfl) | (simp [*, errW_none, errW_some] <;> rfl), by repeat (first | (with_reducible first | exact HB.out | apply below_alloc | apply pw_below_drewN | apply below_drew1 | refine below_set ?_ GE260.out | refine below_set ?_ GE261.out | refine below_set ?_ GE262.out) | exact HB.out)⟩
  · replace c5 := Bool.eq_false_iff.mpr c5
    subst c5
    have H1 : (some false) = some r := by rw [if_neg (show ¬ (false = true) by decide)] at H; exact H
    clear H
    have H := H1
    clear H1
    obtain rfl := Option.some.inj H
    go_enter Tryz.func4, Tryz.ntmps4
    go_wp2_with (first | ((with_reducible refine gate_dst (N := 3) rfl ?_); refine box_event ?hg (N := 3) ?hd (cs := #[.int .i64 a0_0, .int .u64 a0_1, .string a0_2]) (t := 29) ?hr ?_; (case hd => rfl); (case hg => rfl); (case hr => first | (go_simp; done) | (go_simp; rfl)); intro gb260 hg w198 hbox hb; have n0_ := Aside0.mk (below_step (by repeat (first | (with_reducible first | exact HB.out | apply below_alloc | apply pw_below_drewN | apply below_drew1) | exact HB.out)) hb); have n1_ := Aside0.mk (hbox); have n2_ := Aside0.mk ((by rw [hg]; exact (below_size (by repeat (first | (with_reducible first | exact HB.out | apply below_alloc | apply pw_below_drewN | apply below_drew1) | exact HB.out))) : w.heap.size ≤ gb260)); have n3_ := Aside0.mk ((by rw [hg]; exact (below_size (by repeat (first | (with_reducible first | exact HB.out | apply below_alloc | apply pw_below_drewN | apply below_drew1) | exact HB.out))) : w.heap.size ≤ gb260)); clear HB; have HB := n0_; have BK260 := n1_; have GW260 := n2_; have GE260 := n3_; clear n0_ n1_ n2_ n3_; clear hb hbox hg) | ((with_reducible refine gate_dst (N := 4) rfl ?_); refine box_event ?hg (N := 4) ?hd (cs := #[.int .i64 a1_0, .int .u64 a1_1, .string a1_2]) (t := 29) ?hr ?_; (case hd => rfl); (case hg => rfl); (case hr => first | (go_simp; done) | (go_simp; rfl)); intro gb261 hg w199 hbox hb; have n0_ := Aside0.mk (blk_below (g := gb260) (o := .cells #[.int .i64 a0_0, .int .u64 a0_1, .string a0_2] 29 (0, 0)) (by (with_reducible repeat (first | refine blk_drewN ?_ _ | refine blk_drew ?_ | refine blk_alloc ?_ _)); exact BK260.out) hb); have n1_ := Aside0.mk (below_step (by repeat (first | (with_reducible first | exact HB.out | apply below_alloc | apply pw_below_drewN | apply below_drew1 | refine below_set ?_ GE260.out) | exact HB.out)) hb); have n2_ := Aside0.mk (hbox); have n3_ := Aside0.mk ((by rw [hg]; exact (below_size (by repeat (first | (with_reducible first | exact HB.out | apply below_alloc | apply pw_below_drewN | apply below_drew1 | refine below_set ?_ GE260.out) | exact HB.out))) : w.heap.size ≤ gb261)); have n4_ := Aside0.mk ((by rw [hg]; exact (below_size (by repeat (first | (with_reducible first | exact HB.out | apply below_alloc | apply pw_below_drewN | apply below_drew1 | refine below_set ?_ GE260.out) | exact HB.out))) : w.heap.size ≤ gb261)); have n5_ := Aside0.mk ((by rw [hg]; exact Nat.ne_of_lt (blk_lt (g := gb260) (o := .cells #[.int .i64 a0_0, .int .u64 a0_1, .string a0_2] 29 (0, 0)) (by (with_reducible repeat (first | refine blk_drewN ?_ _ | refine blk_drew ?_ | refine blk_alloc ?_ _)); exact BK260.out)) : gb260 ≠ gb261)); have n6_ := Aside0.mk ((by rw [hg]; exact Nat.ne_of_gt (blk_lt (g := gb260) (o := .cells #[.int .i64 a0_0, .int .u64 a0_1, .string a0_2] 29 (0, 0)) (by (with_reducible repeat (first | refine blk_drewN ?_ _ | refine blk_drew ?_ | refine blk_alloc ?_ _)); exact BK260.out)) : gb261 ≠ gb260)); clear BK260; clear HB; have BK260 := n0_; have HB := n1_; have BK261 := n2_; have GW261 := n3_; have GE261 := n4_; have NB260_261 := n5_; have NB261_260 := n6_; clear n0_ n1_ n2_ n3_ n4_ n5_ n6_; clear hb hbox hg) | ((with_reducible refine gate_dst (N := 5) rfl ?_); refine box_event ?hg (N := 5) ?hd (cs := #[.int .i64 a2_0, .int .u64 a2_1, .string a2_2]) (t := 29) ?hr ?_; (case hd => rfl); (case hg => rfl); (case hr => first | (go_simp; done) | (go_simp; rfl)); intro gb262 hg w200 hbox hb; have n0_ := Aside0.mk (blk_below (g := gb260) (o := .cells #[.int .i64 a0_0, .int .u64 a0_1, .string a0_2] 29 (0, 0)) (by (with_reducible repeat (first | refine blk_drewN ?_ _ | refine blk_drew ?_ | refine blk_alloc ?_ _)); exact BK260.out) hb); have n1_ := Aside0.mk (blk_below (g := gb261) (o := .cells #[.int .i64 a1_0, .int .u64 a1_1, .string a1_2] 29 (0, 0)) (by (with_reducible repeat (first | refine blk_drewN ?_ _ | refine blk_drew ?_ | refine blk_alloc ?_ _)); exact BK261.out) hb); have n2_ := Aside0.mk (below_step (by repeat (first | (with_reducible first | exact HB.out | apply below_alloc | apply pw_below_drewN | apply below_drew1 | refine below_set ?_ GE260.out | refine below_set ?_ GE261.out) | exact HB.out)) hb); have n3_ := Aside0.mk (hbox); have n4_ := Aside0.mk ((by rw [hg]; exact (below_size (by repeat (first | (with_reducible first | exact HB.out | apply below_alloc | apply pw_below_drewN | apply below_drew1 | refine below_set ?_ GE260.out | refine below_set ?_ GE261.out) | exact HB.out))) : w.heap.size ≤ gb262)); have n5_ := Aside0.mk ((by rw [hg]; exact (below_size (by repeat (first | (with_reducible first | exact HB.out | apply below_alloc | apply pw_below_drewN | apply below_drew1 | refine below_set ?_ GE260.out | refine below_set ?_ GE261.out) | exact HB.out))) : w.heap.size ≤ gb262)); have n6_ := Aside0.mk ((by rw [hg]; exact Nat.ne_of_lt (blk_lt (g := gb260) (o := .cells #[.int .i64 a0_0, .int .u64 a0_1, .string a0_2] 29 (0, 0)) (by (with_reducible repeat (first | refine blk_drewN ?_ _ | refine blk_drew ?_ | refine blk_alloc ?_ _)); exact BK260.out)) : gb260 ≠ gb262)); have n7_ := Aside0.mk ((by rw [hg]; exact Nat.ne_of_gt (blk_lt (g := gb260) (o := .cells #[.int .i64 a0_0, .int .u64 a0_1, .string a0_2] 29 (0, 0)) (by (with_reducible repeat (first | refine blk_drewN ?_ _ | refine blk_drew ?_ | refine blk_alloc ?_ _)); exact BK260.out)) : gb262 ≠ gb260)); have n8_ := Aside0.mk ((by rw [hg]; exact Nat.ne_of_lt (blk_lt (g := gb261) (o := .cells #[.int .i64 a1_0, .int .u64 a1_1, .string a1_2] 29 (0, 0)) (by (with_reducible repeat (first | refine blk_drewN ?_ _ | refine blk_drew ?_ | refine blk_alloc ?_ _)); exact BK261.out)) : gb261 ≠ gb262)); have n9_ := Aside0.mk ((by rw [hg]; exact Nat.ne_of_gt (blk_lt (g := gb261) (o := .cells #[.int .i64 a1_0, .int .u64 a1_1, .string a1_2] 29 (0, 0)) (by (with_reducible repeat (first | refine blk_drewN ?_ _ | refine blk_drew ?_ | refine blk_alloc ?_ _)); exact BK261.out)) : gb262 ≠ gb261)); clear BK260; clear BK261; clear HB; have BK260 := n0_; have BK261 := n1_; have HB := n2_; have BK262 := n3_; have GW262 := n4_; have GE262 := n5_; have NB260_262 := n6_; have NB262_260 := n7_; have NB261_262 := n8_; have NB262_261 := n9_; clear n0_ n1_ n2_ n3_ n4_ n5_ n6_ n7_ n8_ n9_; clear hb hbox hg) | ((with_reducible refine gate_callee (f := 15) rfl ?_); refine goesL_ (some 14) rfl rfl Tryz.func15 (by kernel_rfl) rfl #[] rfl (by (try simp only [List.map_toArray, List.map_cons, List.map_nil]); first | done | rfl | (simp only [List.length_drop, List.length_take]; rfl)) ?_; (with_reducible refine (abacuslaw18_awake.calls k  false _ A4.out).mono ?_); rintro e w201 ⟨rfl, hb⟩; refine ⟨_, rfl, ?_⟩; have n0_ := Aside0.mk (blk_below (g := gb260) (o := .cells #[.int .i64 a0_0, .int .u64 a0_1, .string a0_2] 29 (0, 0)) (by (with_reducible repeat (first | refine blk_drewN ?_ _ | refine blk_drew ?_ | refine blk_alloc ?_ _)); exact BK260.out) hb); have n1_ := Aside0.mk (blk_below (g := gb261) (o := .cells #[.int .i64 a1_0, .int .u64 a1_1, .string a1_2] 29 (0, 0)) (by (with_reducible repeat (first | refine blk_drewN ?_ _ | refine blk_drew ?_ | refine blk_alloc ?_ _)); exact BK261.out) hb); have n2_ := Aside0.mk (blk_below (g := gb262) (o := .cells #[.int .i64 a2_0, .int .u64 a2_1, .string a2_2] 29 (0, 0)) (by (with_reducible repeat (first | refine blk_drewN ?_ _ | refine blk_drew ?_ | refine blk_alloc ?_ _)); exact BK262.out) hb); have n3_ := Aside0.mk (below_step (by repeat (first | (with_reducible first | exact HB.out | apply below_alloc | apply pw_below_drewN | apply below_drew1 | refine below_set ?_ GE260.out | refine below_set ?_ GE261.out | refine below_set ?_ GE262.out) | exact HB.out)) hb); clear BK260; clear BK261; clear BK262; clear HB; have BK260 := n0_; have BK261 := n1_; have BK262 := n2_; have HB := n3_; clear n0_ n1_ n2_ n3_; (try clear hb); (try clear hb2); (try clear hk); (try clear hi)))
    go_ret
    exact ⟨by first | rfl | (simp [errW_none, errW_some] <;> rfl) | (simp only [append_nothing]; done) | (simp only [append_nothing]; rfl) | (simp [*, errW_none, errW_some] <;> rfl), by repeat (first | (with_reducible first | exact HB.out | apply below_alloc | apply pw_below_drewN | apply below_drew1 | refine below_set ?_ GE260.out | refine below_set ?_ GE261.out | refine below_set ?_ GE262.out) | exact HB.out)⟩

end Go.Proofs.YtoanmnhkhookfaaGreatDoor.PXRelateTotal
