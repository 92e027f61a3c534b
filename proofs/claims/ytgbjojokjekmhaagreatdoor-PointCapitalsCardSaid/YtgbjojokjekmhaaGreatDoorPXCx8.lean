/- The machine's side of a law, printed by a program of this session out of the translation; conditions: none. -/
import Derived.Test.YtgbjojokjekmhaaGreatDoorPXCx0
import Derived.Test.YtgbjojokjekmhaaGreatDoorPXCx3
import Derived.Test.YtgbjojokjekmhaaGreatDoorPXCx4
import Derived.Test.YtgbjojokjekmhaaGreatDoorPXCx5
import Derived.Test.YtgbjojokjekmhaaGreatDoorPXCx6
import Derived.Test.YtgbjojokjekmhaaGreatDoorPXCx7
import Derived.Test.YtgbjojokjekmhaaGreatDoorPXCx8D
import Derived.Test.YtgbjojokjekmhaaGreatDoorDiv64Ev
import Derived.Test.YtgbjojokjekmhaaGreatDoorNatU
import Derived.Test.YtgbjojokjekmhaaGreatDoorInBaseW
import Derived.Test.YtgbjojokjekmhaaGreatDoorTxtP
namespace Go.Proofs.YtgbjojokjekmhaaGreatDoor.PXC
open Go.Proofs.YtgbjojokjekmhaaGreatDoor
open Go.RowKit Go.Proofs.YtgbjojokjekmhaaGreatDoorW.PrintWords Go.Proofs.YtgbjojokjekmhaaGreatDoorW.PrintLast Go.Proofs.YtgbjojokjekmhaaGreatDoorW.PrintMore
attribute [local go_sem] max2_int min2_int max_two min_two max_three min_three max_four min_four   -- for this text's walks alone
set_option linter.unusedVariables false
set_option linter.unusedSimpArgs false

theorem phCx8_1 {P : Prop} (h : P := by (with_reducible repeat (first | refine blk_drewN ?_ _ | refine blk_drew ?_ | refine blk_alloc ?_ _)); exact BK226.out) : P := h
theorem phCx8_2 {P : Prop} (h : P := by repeat (first | (with_reducible first | exact HB.out | apply below_alloc | apply pw_below_drewN | apply below_drew1 | refine below_set ?_ GE226.out) | exact HB.out)) : P := h
theorem phCx8_3 {P : Prop} (h : P := by repeat (first | (with_reducible first | exact HB.out | apply below_alloc | apply pw_below_drewN | apply below_drew1 | refine below_set ?_ GE226.out | refine below_set ?_ GE231.out) | exact HB.out)) : P := h
theorem phCx8_4 {P : Prop} (h : P := by repeat (first | (with_reducible first | exact HB.out | apply below_alloc | apply pw_below_drewN | apply below_drew1) | exact HB.out)) : P := h
theorem phCx8_5 {P : Prop} (h : P := by first | rfl | (simp; done)) : P := h
theorem phCx8_6 {P : Prop} (h : P := by (with_reducible repeat (first | apply Kd.R_alloc | apply Kd.R_drewN | apply Kd.R_drew)); exact HO234.out) : P := h
theorem phCx8_7 {P : Prop} (h : P := by (with_reducible repeat (first | refine blk_drewN ?_ _ | refine blk_drew ?_ | refine blk_alloc ?_ _)); exact BK231.out) : P := h
theorem phCx8_8 {P : Prop} (h : P := by (with_reducible repeat (first | apply Kd.V_alloc | apply Kd.V_drewN | apply Kd.V_drew)); exact HO245.out) : P := h
theorem phCx8_9 {P : Prop} (h : P := by (with_reducible repeat (first | refine blk_drewN ?_ _ | refine blk_drew ?_ | refine blk_alloc ?_ _)); refine blk_far ?_ NB226_231.out _; (with_reducible repeat (first | refine blk_drewN ?_ _ | refine blk_drew ?_ | refine blk_alloc ?_ _)); refine blk_far ?_ NB226_231.out _; (with_reducible repeat (first | refine blk_drewN ?_ _ | refine blk_drew ?_ | refine blk_alloc ?_ _)); refine blk_far ?_ NB226_231.out _; (with_reducible repeat (first | refine blk_drewN ?_ _ | refine blk_drew ?_ | refine blk_alloc ?_ _)); refine blk_far ?_ NB226_231.out _; (with_reducible repeat (first | refine blk_drewN ?_ _ | refine blk_drew ?_ | refine blk_alloc ?_ _)); exact BK226.out) : P := h
theorem phCx8_10 {P : Prop} (h : P := by (with_reducible repeat (first | refine blk_drewN ?_ _ | refine blk_drew ?_ | refine blk_alloc ?_ _)); refine blk_put (cs := #[.bool t227, .int .i64 t228, .int .u64 t229, .int .i64 0]) ?_ 3 _ (by first | rfl | (simp; done)); (with_reducible repeat (first | refine blk_drewN ?_ _ | refine blk_drew ?_ | refine blk_alloc ?_ _)); refine blk_put (cs := #[.bool t227, .int .i64 t228, .int .u64 0, .int .i64 0]) ?_ 2 _ (by first | rfl | (simp; done)); (with_reducible repeat (first | refine blk_drewN ?_ _ | refine blk_drew ?_ | refine blk_alloc ?_ _)); refine blk_put (cs := #[.bool t227, .int .i64 0, .int .u64 0, .int .i64 0]) ?_ 1 _ (by first | rfl | (simp; done)); (with_reducible repeat (first | refine blk_drewN ?_ _ | refine blk_drew ?_ | refine blk_alloc ?_ _)); refine blk_put (cs := #[.bool false, .int .i64 0, .int .u64 0, .int .i64 0]) ?_ 0 _ (by first | rfl | (simp; done)); (with_reducible repeat (first | refine blk_drewN ?_ _ | refine blk_drew ?_ | refine blk_alloc ?_ _)); exact BK231.out) : P := h
theorem phCx8_11 {P : Prop} (h : P := by (with_reducible repeat (first | apply Kd.V_alloc | apply Kd.V_drewN | apply Kd.V_drew)); exact HO250.out) : P := h
theorem phCx8_12 {P : Prop} (h : P := by first | (with_reducible exact HG) | exact ⟨GW.below HG.out (by repeat (first | (with_reducible first | exact HB.out | apply below_alloc | apply pw_below_drewN | apply below_drew1) | (with_reducible refine below_set ?_ (Aside0.out (by assumption))) | exact HB.out | exact Below.refl _ _))⟩ | exact ⟨GW.drewN HG.out _⟩ | exact ⟨GW.drew HG.out⟩ | exact ⟨GW.drewN (GW.drewN HG.out _) _⟩ | exact ⟨GW.drewN (GW.drew HG.out) _⟩) : P := h
theorem phCx8_13 {P : Prop} (h : P := by repeat (first | (with_reducible first | exact HB.out | apply below_alloc | apply pw_below_drewN | apply below_drew1) | (with_reducible refine below_set ?_ (Aside0.out (by assumption))) | exact HB.out | exact Below.refl _ _)) : P := h
theorem phCx8_14 {P : Prop} (h : P := by first | rfl | (simp [errW_none, errW_some] <;> rfl) | (simp only [append_nothing]; done) | (simp only [append_nothing]; rfl) | (simp [*, errW_none, errW_some] <;> rfl)) : P := h
theorem phCx8_15 {P : Prop} (h : P := by (with_reducible repeat (first | apply Kd.V_alloc | apply Kd.V_drewN | apply Kd.V_drew)); exact HO237.out) : P := h
theorem phCx8_16 {P : Prop} (h : P := by (with_reducible repeat (first | apply Kd.V_alloc | apply Kd.V_drewN | apply Kd.V_drew)); exact HO254.out) : P := h
/-! ### numeral_InBase: function 106 -/
def numeral_InBase.f (k : Nat) (l0 : List Int) (a1 : Int) (a2 : Bool) : Option (ByteArray × Int) := if a1 = 10 ∧ a2 = false ∧ (∀ x ∈ l0, 0 ≤ x ∧ x < 18446744073709551616) ∧ Num.sz l0 ≤ 4096 ∧ l0.length ≤ 35184372088832 then some (⟨(Num.inBase false 10 (Num.val l0)).toArray⟩, 0) else none
theorem numeral_InBase.mono : ∀ a0 a1 a2 k, LeO (numeral_InBase.f k a0 a1 a2) (numeral_InBase.f (k + 1) a0 a1 a2) := by
  intro a0 a1 a2 k
  exact LeO.refl _
theorem numeral_InBase.calls (k : Nat) (A0 : Option Addr) (c0 : Nat) (l0 : List Int) (a1 : Int) (a2 : Bool) (r1 : ByteArray) (r2 : Int) (w : World) (hr0 : Kd.C (Kd.int .u64) w A0 l0.length l0) (hc0 : l0.length ≤ c0) (h : numeral_InBase.f k l0 a1 a2 = some (r1, r2)) (HG : Aside0 (GW w) := by exact phCx8_12) :
    Calls Tryz.prog 106 #[.slice A0 l0.length c0, .int .i64 a1, .bool a2] w fun e w' => e = .returned (.tuple #[.string r1, .int .i64 r2]) ∧ Below w.heap.size w w' := by
  unfold numeral_InBase.f at h
  split at h
  · rename_i h0
    obtain ⟨rfl, rfl, hlm, hsz, hlen⟩ := h0
    cases h
    obtain ⟨kt, ht⟩ : ∃ k, nat_Trim.f k l0 = some (l0.take (Num.sz l0)) := by
      obtain ⟨k, hk⟩ := Ev.rounds (Num.size_ev l0 (by omega))
      have := Num.sz_le l0
      refine ⟨k, ?_⟩
      unfold nat_Trim.f
      rw [hk, Option.bind_some, if_pos (by omega), if_pos (by omega), if_pos (by omega), Int.toNat_natCast]
    have htl : (l0.take (Num.sz l0)).length = Num.sz l0 := List.length_take_of_le (Num.sz_le l0)
    refine InBase_walk A0 c0 l0 10 10000000000000000000 19 false w hlm (by omega) (by omega) (by decide) (by omega) (by omega) (by omega) hsz HG.out ?_ ?_ ?_ ?_ ?_
    · refine (nat_Trim.calls kt A0 c0 l0 _ w hr0 hc0 ht HG).mono ?_
      rintro e w' ⟨v, he, hR, hb⟩
      have ho := Kd.own_of_R hR
      rw [htl] at ho
      exact ⟨v, he, ho, hb⟩
    · intro u hu
      exact numeral_chunk.calls 40 10 10000000000000000000 19 u (by kernel_rfl) ⟨hu⟩
    · intro hi lo u hu h1 h2
      obtain ⟨kd, hd⟩ := Ev.rounds (Num.div64_ev hi lo 10000000000000000000 h1 h2 (by omega))
      exact bits_Div64.calls kd hi lo _ _ _ u hd ⟨hu⟩
    · intro B b bs c u hI hl hB
      exact Tryz.Builder_WriteByte_x B b bs c u hI hl hB
    · intro B b l u hI hB
      exact Tryz.Builder_String_any_k B b l u hI hB
  · cases h

/-! ### numeral_Digits: function 64 -/
def numeral_Digits.f (k : Nat) (l0 : List Int) : Option (ByteArray × Int) := (numeral_InBase.f k l0 10 false).bind fun bt224 => (some (bt224.1, bt224.2))
theorem numeral_Digits.mono : ∀ a0 k, LeO (numeral_Digits.f k a0) (numeral_Digits.f (k + 1) a0) := by
  intro a0 k
  unfold numeral_Digits.f
  repeat' first
      | (with_reducible exact numeral_InBase.mono _ _ _ _)
      | (with_reducible exact LeO.refl _)
      | (with_reducible exact LeO.none _)
      | (with_reducible refine LeO.ite ?_ ?_)
      | (with_reducible refine LeO.bind ?_ (fun _ => ?_))
      | exact numeral_InBase.mono _ _ _ _
      | exact LeO.none _
      | refine LeO.ite ?_ ?_
      | refine LeO.bind ?_ (fun _ => ?_)
set_option maxHeartbeats 8000000 in
set_option maxRecDepth 100000 in
theorem numeral_Digits.calls (k : Nat) (A0 : Option Addr) (c0 : Nat) (l0 : List Int) (r1 : ByteArray) (r2 : Int) (w : World) (hr0 : Kd.C (Kd.int .u64) w A0 l0.length l0) (hc0 : l0.length ≤ c0) (h : numeral_Digits.f k l0 = some (r1, r2)) (HG : Aside0 (GW w) := by exact phCx8_12) :
    Calls Tryz.prog 64 #[.slice A0 l0.length c0] w fun e w' => e = .returned (.tuple #[.string r1, .int .i64 r2]) ∧ Below w.heap.size w w' := by
  have HR0 := Aside0.mk hr0
  have HC0 := Aside0.mk hc0
  clear hr0 hc0
  have HB := Aside0.mk (Below.refl w.heap.size w)
  have H : ((numeral_InBase.f k l0 10 false).bind fun bt224 => (some (bt224.1, bt224.2))) = some (r1, r2) := h
  clear h
  replace H := Option.bind_eq_some_iff.mp H
  obtain ⟨⟨t224, t225⟩, A20, H⟩ := H
  try dsimp only at H
  have A2 := Aside0.mk A20
  clear A20
  simp only [Option.some.injEq, Prod.mk.injEq] at H
  obtain ⟨rfl, rfl⟩ := H
  go_enter Tryz.func64, Tryz.ntmps64
  go_wp2_with (first | ((with_reducible refine gate_callee (f := 106) rfl ?_); refine goesL_ (some 5) rfl rfl Tryz.func106 (by kernel_rfl) rfl #[.slice A0 l0.length c0, .int .i64 10, .bool false] rfl (by (try simp only [List.map_toArray, List.map_cons, List.map_nil]); first | done | rfl | (simp only [List.length_drop, List.length_take]; rfl)) ?_; (with_reducible refine (numeral_InBase.calls k _ _ l0 10 false t224 t225 _ ?side1 ?side2 A2.out).mono ?_); (case side1 => repeat (first | exact HR0.out | (with_reducible refine Kd.C_alloc ?_ _) | (with_reducible refine Kd.C_drewN ?_ _) | (with_reducible refine Kd.C_drew ?_))); (case side2 => exact HC0.out); rintro e w3 ⟨rfl, hb⟩; refine ⟨_, rfl, ?_⟩; have n0_ := Aside0.mk (below_step (by exact phCx8_4) hb); clear HB; have HB := n0_; clear n0_; (try clear hb); (try clear hb2); (try clear hk); (try clear hi)))
  go_ret2
  exact ⟨by exact phCx8_14, by exact phCx8_4⟩

/-! ### strings_TrimRight: function 65 -/
def strings_TrimRight.f (a0 : ByteArray) (a1 : ByteArray) : Option ByteArray := if a1 = ⟨#[48]⟩ then (if a0.size ≤ 9223372036854775807 then some ⟨(Lib.trimRightB a0.data.toList 48).toArray⟩ else none) else none
theorem strings_TrimRight.calls (a0 : ByteArray) (a1 : ByteArray) (r : ByteArray) (w : World) (h : strings_TrimRight.f a0 a1 = some r) :
    Calls Tryz.prog 65 #[.string a0, .string a1] w fun e w' => e = .returned (.string r) ∧ Drawn0 w w' := by
  unfold strings_TrimRight.f at h
  split at h
  · rename_i h0
    subst h0
    split at h
    · rename_i h1
      cases h
      exact (Tryz.strings_TrimRight_one a0 48 (by decide) w h1).mono fun e w' hh => ⟨hh.1, ⟨0, hh.2⟩⟩
    · cases h
  · cases h

/-! ### fixed_All: function 26 -/
def fixed_All.f (k : Nat) (a0 : Int) : Option (Bool × ByteArray × Int × Int) := (ieee_Decode.f a0).bind fun bt227 => (if bt227.2.1 ≥ 3 then (some (false, (⟨#[]⟩ : ByteArray), 0, 5)) else (if bt227.2.1 = 0 then (some (bt227.1, (⟨#[48]⟩ : ByteArray), 0, 0)) else ((nat_FromUint.f bt227.2.2.1).bind fun t232 => (if bt227.2.2.2 ≥ 0 then ((nat_Shl.f k t232 bt227.2.2.2).bind fun bt235 => ((numeral_Digits.f k bt235.1).bind fun bt239 => ((strings_TrimRight.f bt239.1 (⟨#[48]⟩ : ByteArray)).bind fun t241 => (some (bt227.1, t241, wrap64 ((wrap64 ((bt239.1.size : Int))) - (t241.size : Int)), 0))))) else ((nat_Trail.f k t232).bind fun t242 => ((nat_Shr.f k t232 (wrap64 ((wrap64 (-bt227.2.2.2)) - (mx (wrap64 ((wrap64 (-bt227.2.2.2)) - t242)) 0)))).bind fun bt243 => ((quot_Pow5.f k (mx (wrap64 ((wrap64 (-bt227.2.2.2)) - t242)) 0)).bind fun bt248 => ((nat_Mul.f k bt243.1 bt248.1).bind fun bt252 => ((numeral_Digits.f k bt252.1).bind fun bt256 => ((strings_TrimRight.f bt256.1 (⟨#[48]⟩ : ByteArray)).bind fun t258 => (some (bt227.1, t258, wrap64 ((wrap64 ((wrap64 (-(mx (wrap64 ((wrap64 (-bt227.2.2.2)) - t242)) 0))) + (bt256.1.size : Int))) - (t258.size : Int)), 0))))))))))))
theorem fixed_All.mono : ∀ a0 k, LeO (fixed_All.f k a0) (fixed_All.f (k + 1) a0) := by
  intro a0 k
  unfold fixed_All.f
  repeat' first
      | (with_reducible exact nat_Mul.mono _ _ _)
      | (with_reducible exact nat_Shl.mono _ _ _)
      | (with_reducible exact nat_Shr.mono _ _ _)
      | (with_reducible exact nat_Trail.mono _ _)
      | (with_reducible exact numeral_Digits.mono _ _)
      | (with_reducible exact quot_Pow5.mono _ _)
      | (with_reducible exact LeO.refl _)
      | (with_reducible exact LeO.none _)
      | (with_reducible refine LeO.ite ?_ ?_)
      | (with_reducible refine LeO.bind ?_ (fun _ => ?_))
      | exact nat_Mul.mono _ _ _
      | exact nat_Shl.mono _ _ _
      | exact nat_Shr.mono _ _ _
      | exact nat_Trail.mono _ _
      | exact numeral_Digits.mono _ _
      | exact quot_Pow5.mono _ _
      | exact LeO.none _
      | refine LeO.ite ?_ ?_
      | refine LeO.bind ?_ (fun _ => ?_)
set_option maxHeartbeats 8000000 in
set_option maxRecDepth 100000 in
theorem fixed_All.calls (k : Nat) (a0 : Int) (r1 : Bool) (r2 : ByteArray) (r3 : Int) (r4 : Int) (w : World) (h : fixed_All.f k a0 = some (r1, r2, r3, r4)) (HG : Aside0 (GW w) := by exact phCx8_12) :
    Calls Tryz.prog 26 #[.int .u64 a0] w fun e w' => e = .returned (.tuple #[.agg #[.bool r1, .string r2, .int .i64 r3], .int .i64 r4]) ∧ Below w.heap.size w w' := by
  have hu46 := Tryz.underlying46
  have hu99 := Tryz.underlying99
  have HB := Aside0.mk (Below.refl w.heap.size w)
  have H : ((ieee_Decode.f a0).bind fun bt227 => (if bt227.2.1 ≥ 3 then (some (false, (⟨#[]⟩ : ByteArray), 0, 5)) else (if bt227.2.1 = 0 then (some (bt227.1, (⟨#[48]⟩ : ByteArray), 0, 0)) else ((nat_FromUint.f bt227.2.2.1).bind fun t232 => (if bt227.2.2.2 ≥ 0 then ((nat_Shl.f k t232 bt227.2.2.2).bind fun bt235 => ((numeral_Digits.f k bt235.1).bind fun bt239 => ((strings_TrimRight.f bt239.1 (⟨#[48]⟩ : ByteArray)).bind fun t241 => (some (bt227.1, t241, wrap64 ((wrap64 ((bt239.1.size : Int))) - (t241.size : Int)), 0))))) else ((nat_Trail.f k t232).bind fun t242 => ((nat_Shr.f k t232 (wrap64 ((wrap64 (-bt227.2.2.2)) - (mx (wrap64 ((wrap64 (-bt227.2.2.2)) - t242)) 0)))).bind fun bt243 => ((quot_Pow5.f k (mx (wrap64 ((wrap64 (-bt227.2.2.2)) - t242)) 0)).bind fun bt248 => ((nat_Mul.f k bt243.1 bt248.1).bind fun bt252 => ((numeral_Digits.f k bt252.1).bind fun bt256 => ((strings_TrimRight.f bt256.1 (⟨#[48]⟩ : ByteArray)).bind fun t258 => (some (bt227.1, t258, wrap64 ((wrap64 ((wrap64 (-(mx (wrap64 ((wrap64 (-bt227.2.2.2)) - t242)) 0))) + (bt256.1.size : Int))) - (t258.size : Int)), 0))))))))))))) = some (r1, r2, r3, r4) := h
  clear h
  replace H := Option.bind_eq_some_iff.mp H
  obtain ⟨⟨t227, t228, t229, t230⟩, A20, H⟩ := H
  try dsimp only at H
  have A2 := Aside0.mk A20
  clear A20
  by_cases c3 : t228 ≥ 3
  · rw [if_pos c3] at H
    have c3b0 : decide (3 ≤ t228) = true := decide_eq_true c3
    clear c3
    simp only [Option.some.injEq, Prod.mk.injEq] at H
    obtain ⟨rfl, rfl, rfl, rfl⟩ := H
    go_enter Tryz.func26, Tryz.ntmps26
    go_wp2_with (first | ((with_reducible refine gate_dst (N := 2) rfl ?_); refine box_event ?hg (N := 2) ?hd (cs := #[.bool false, .string (⟨#[]⟩ : ByteArray), .int .i64 0]) (t := 46) ?hr ?_; (case hd => rfl); (case hg => rfl); (case hr => first | (go_simp; done) | (go_simp; rfl)); intro gb226 hg w4 hbox hb; have n0_ := Aside0.mk (below_step (by exact phCx8_4) hb); have n1_ := Aside0.mk (hbox); have n2_ := Aside0.mk ((by rw [hg]; exact (below_size (by exact phCx8_4)) : w.heap.size ≤ gb226)); have n3_ := Aside0.mk ((by rw [hg]; exact (below_size (by exact phCx8_4)) : w.heap.size ≤ gb226)); clear HB; have HB := n0_; have BK226 := n1_; have GW226 := n2_; have GE226 := n3_; clear n0_ n1_ n2_ n3_; clear hb hbox hg) | (go_at_call 57; (with_reducible refine (ieee_Decode.calls a0 t227 t228 t229 t230 _ A2.out).mono ?_); rintro e w5 ⟨rfl, hb⟩; have n0_ := Aside0.mk (blk_below (g := gb226) (o := .cells #[.bool false, .string (⟨#[]⟩ : ByteArray), .int .i64 0] 46 (0, 0)) (by exact phCx8_1) hb); have n1_ := Aside0.mk (below_step (by exact phCx8_2) hb); clear BK226; clear HB; have BK226 := n0_; have HB := n1_; clear n0_ n1_; (try clear hb); (try clear hb2); (try clear hk); (try clear hi)) | ((with_reducible refine gate_dst (N := 4) rfl ?_); refine box_event ?hg (N := 4) ?hd (cs := #[.bool false, .int .i64 0, .int .u64 0, .int .i64 0]) (t := 99) ?hr ?_; (case hd => rfl); (case hg => rfl); (case hr => first | (go_simp; done) | (go_simp; rfl)); intro gb231 hg w6 hbox hb; have n0_ := Aside0.mk (blk_below (g := gb226) (o := .cells #[.bool false, .string (⟨#[]⟩ : ByteArray), .int .i64 0] 46 (0, 0)) (by exact phCx8_1) hb); have n1_ := Aside0.mk (below_step (by exact phCx8_2) hb); have n2_ := Aside0.mk (hbox); have n3_ := Aside0.mk ((by rw [hg]; exact (below_size (by exact phCx8_2)) : w.heap.size ≤ gb231)); have n4_ := Aside0.mk ((by rw [hg]; exact (below_size (by exact phCx8_2)) : w.heap.size ≤ gb231)); have n5_ := Aside0.mk ((by rw [hg]; exact Nat.ne_of_lt (blk_lt (g := gb226) (o := .cells #[.bool false, .string (⟨#[]⟩ : ByteArray), .int .i64 0] 46 (0, 0)) (by exact phCx8_1)) : gb226 ≠ gb231)); have n6_ := Aside0.mk ((by rw [hg]; exact Nat.ne_of_gt (blk_lt (g := gb226) (o := .cells #[.bool false, .string (⟨#[]⟩ : ByteArray), .int .i64 0] 46 (0, 0)) (by exact phCx8_1)) : gb231 ≠ gb226)); clear BK226; clear HB; have BK226 := n0_; have HB := n1_; have BK231 := n2_; have GW231 := n3_; have GE231 := n4_; have NB226_231 := n5_; have NB231_226 := n6_; clear n0_ n1_ n2_ n3_ n4_ n5_ n6_; clear hb hbox hg; have hnb7 := NB231_226.out; have hnc7 := NB226_231.out; have hcz8_0 : w6.cell? ⟨gb231, 0, none⟩ = some (.bool false) := (blk_cell BK231.out 0).trans rfl; have hcz8_1 : w6.cell? ⟨gb231, 1, none⟩ = some (.int .i64 0) := (blk_cell BK231.out 1).trans rfl; have hcz8_2 : w6.cell? ⟨gb231, 2, none⟩ = some (.int .u64 0) := (blk_cell BK231.out 2).trans rfl; have hcz8_3 : w6.cell? ⟨gb231, 3, none⟩ = some (.int .i64 0) := (blk_cell BK231.out 3).trans rfl; have hfz8_0 := blk_frozen BK231.out 0; have hfz8_1 := blk_frozen BK231.out 1; have hfz8_2 := blk_frozen BK231.out 2; have hfz8_3 := blk_frozen BK231.out 3; have hcz9_0 : w6.cell? ⟨gb226, 0, none⟩ = some (.bool false) := (blk_cell BK226.out 0).trans rfl; have hcz9_1 : w6.cell? ⟨gb226, 1, none⟩ = some (.string (⟨#[]⟩ : ByteArray)) := (blk_cell BK226.out 1).trans rfl; have hcz9_2 : w6.cell? ⟨gb226, 2, none⟩ = some (.int .i64 0) := (blk_cell BK226.out 2).trans rfl; have hfz9_0 := blk_frozen BK226.out 0; have hfz9_1 := blk_frozen BK226.out 1; have hfz9_2 := blk_frozen BK226.out 2))
    repeat (go_quiet (fail); try go_wp2_with (fail))
    refine bodyPost_ret (results_ct rfl _ _ gb226 46 #[.bool false, .string (⟨#[]⟩ : ByteArray), .int .i64 0] (0, 0) _ rfl (by (with_reducible repeat (first | refine blk_drewN ?_ _ | refine blk_drew ?_ | refine blk_alloc ?_ _)); refine blk_put (cs := #[.bool false, .string (⟨#[]⟩ : ByteArray), .int .i64 0]) ?_ 2 _ (by exact phCx8_5); (with_reducible repeat (first | refine blk_drewN ?_ _ | refine blk_drew ?_ | refine blk_alloc ?_ _)); refine blk_put (cs := #[.bool false, .string (⟨#[]⟩ : ByteArray), .int .i64 0]) ?_ 1 _ (by exact phCx8_5); (with_reducible repeat (first | refine blk_drewN ?_ _ | refine blk_drew ?_ | refine blk_alloc ?_ _)); refine blk_put (cs := #[.bool false, .string (⟨#[]⟩ : ByteArray), .int .i64 0]) ?_ 0 _ (by exact phCx8_5); (with_reducible repeat (first | refine blk_drewN ?_ _ | refine blk_drew ?_ | refine blk_alloc ?_ _)); refine blk_far ?_ NB226_231.out _; (with_reducible repeat (first | refine blk_drewN ?_ _ | refine blk_drew ?_ | refine blk_alloc ?_ _)); refine blk_far ?_ NB226_231.out _; (with_reducible repeat (first | refine blk_drewN ?_ _ | refine blk_drew ?_ | refine blk_alloc ?_ _)); refine blk_far ?_ NB226_231.out _; (with_reducible repeat (first | refine blk_drewN ?_ _ | refine blk_drew ?_ | refine blk_alloc ?_ _)); refine blk_far ?_ NB226_231.out _; (with_reducible repeat (first | refine blk_drewN ?_ _ | refine blk_drew ?_ | refine blk_alloc ?_ _)); exact BK226.out) Tryz.underlying46 rfl (by kernel_rfl)) rfl ?_
    exact ⟨by exact phCx8_14, by exact phCx8_3⟩
  · rw [if_neg c3] at H
    have c3b0 : decide (3 ≤ t228) = false := decide_eq_false c3
    clear c3
    by_cases c10 : t228 = 0
    · rw [if_pos c10] at H
      have c10b0 : (t228 == 0) = true := beq_iff_eq.mpr c10
      have c10b1 : (t228 != 0) = false := bne_eq_false_iff_eq.mpr c10
      clear c10
      simp only [Option.some.injEq, Prod.mk.injEq] at H
      obtain ⟨rfl, rfl, rfl, rfl⟩ := H
      go_enter Tryz.func26, Tryz.ntmps26
      go_wp2_with (first | ((with_reducible refine gate_dst (N := 2) rfl ?_); refine box_event ?hg (N := 2) ?hd (cs := #[.bool false, .string (⟨#[]⟩ : ByteArray), .int .i64 0]) (t := 46) ?hr ?_; (case hd => rfl); (case hg => rfl); (case hr => first | (go_simp; done) | (go_simp; rfl)); intro gb226 hg w11 hbox hb; have n0_ := Aside0.mk (below_step (by exact phCx8_4) hb); have n1_ := Aside0.mk (hbox); have n2_ := Aside0.mk ((by rw [hg]; exact (below_size (by exact phCx8_4)) : w.heap.size ≤ gb226)); have n3_ := Aside0.mk ((by rw [hg]; exact (below_size (by exact phCx8_4)) : w.heap.size ≤ gb226)); clear HB; have HB := n0_; have BK226 := n1_; have GW226 := n2_; have GE226 := n3_; clear n0_ n1_ n2_ n3_; clear hb hbox hg) | (go_at_call 57; (with_reducible refine (ieee_Decode.calls a0 t227 t228 t229 t230 _ A2.out).mono ?_); rintro e w12 ⟨rfl, hb⟩; have n0_ := Aside0.mk (blk_below (g := gb226) (o := .cells #[.bool false, .string (⟨#[]⟩ : ByteArray), .int .i64 0] 46 (0, 0)) (by exact phCx8_1) hb); have n1_ := Aside0.mk (below_step (by exact phCx8_2) hb); clear BK226; clear HB; have BK226 := n0_; have HB := n1_; clear n0_ n1_; (try clear hb); (try clear hb2); (try clear hk); (try clear hi)) | ((with_reducible refine gate_dst (N := 4) rfl ?_); refine box_event ?hg (N := 4) ?hd (cs := #[.bool false, .int .i64 0, .int .u64 0, .int .i64 0]) (t := 99) ?hr ?_; (case hd => rfl); (case hg => rfl); (case hr => first | (go_simp; done) | (go_simp; rfl)); intro gb231 hg w13 hbox hb; have n0_ := Aside0.mk (blk_below (g := gb226) (o := .cells #[.bool false, .string (⟨#[]⟩ : ByteArray), .int .i64 0] 46 (0, 0)) (by exact phCx8_1) hb); have n1_ := Aside0.mk (below_step (by exact phCx8_2) hb); have n2_ := Aside0.mk (hbox); have n3_ := Aside0.mk ((by rw [hg]; exact (below_size (by exact phCx8_2)) : w.heap.size ≤ gb231)); have n4_ := Aside0.mk ((by rw [hg]; exact (below_size (by exact phCx8_2)) : w.heap.size ≤ gb231)); have n5_ := Aside0.mk ((by rw [hg]; exact Nat.ne_of_lt (blk_lt (g := gb226) (o := .cells #[.bool false, .string (⟨#[]⟩ : ByteArray), .int .i64 0] 46 (0, 0)) (by exact phCx8_1)) : gb226 ≠ gb231)); have n6_ := Aside0.mk ((by rw [hg]; exact Nat.ne_of_gt (blk_lt (g := gb226) (o := .cells #[.bool false, .string (⟨#[]⟩ : ByteArray), .int .i64 0] 46 (0, 0)) (by exact phCx8_1)) : gb231 ≠ gb226)); clear BK226; clear HB; have BK226 := n0_; have HB := n1_; have BK231 := n2_; have GW231 := n3_; have GE231 := n4_; have NB226_231 := n5_; have NB231_226 := n6_; clear n0_ n1_ n2_ n3_ n4_ n5_ n6_; clear hb hbox hg; have hnb14 := NB231_226.out; have hnc14 := NB226_231.out; have hcz15_0 : w13.cell? ⟨gb231, 0, none⟩ = some (.bool false) := (blk_cell BK231.out 0).trans rfl; have hcz15_1 : w13.cell? ⟨gb231, 1, none⟩ = some (.int .i64 0) := (blk_cell BK231.out 1).trans rfl; have hcz15_2 : w13.cell? ⟨gb231, 2, none⟩ = some (.int .u64 0) := (blk_cell BK231.out 2).trans rfl; have hcz15_3 : w13.cell? ⟨gb231, 3, none⟩ = some (.int .i64 0) := (blk_cell BK231.out 3).trans rfl; have hfz15_0 := blk_frozen BK231.out 0; have hfz15_1 := blk_frozen BK231.out 1; have hfz15_2 := blk_frozen BK231.out 2; have hfz15_3 := blk_frozen BK231.out 3; have hcz16_0 : w13.cell? ⟨gb226, 0, none⟩ = some (.bool false) := (blk_cell BK226.out 0).trans rfl; have hcz16_1 : w13.cell? ⟨gb226, 1, none⟩ = some (.string (⟨#[]⟩ : ByteArray)) := (blk_cell BK226.out 1).trans rfl; have hcz16_2 : w13.cell? ⟨gb226, 2, none⟩ = some (.int .i64 0) := (blk_cell BK226.out 2).trans rfl; have hfz16_0 := blk_frozen BK226.out 0; have hfz16_1 := blk_frozen BK226.out 1; have hfz16_2 := blk_frozen BK226.out 2))
      repeat (go_quiet (fail); try go_wp2_with (fail))
      refine bodyPost_ret (results_ct rfl _ _ gb226 46 #[.bool t227, .string (⟨#[48]⟩ : ByteArray), .int .i64 0] (0, 0) _ rfl (by (with_reducible repeat (first | refine blk_drewN ?_ _ | refine blk_drew ?_ | refine blk_alloc ?_ _)); refine blk_put (cs := #[.bool t227, .string (⟨#[48]⟩ : ByteArray), .int .i64 0]) ?_ 2 _ (by exact phCx8_5); (with_reducible repeat (first | refine blk_drewN ?_ _ | refine blk_drew ?_ | refine blk_alloc ?_ _)); refine blk_put (cs := #[.bool t227, .string (⟨#[]⟩ : ByteArray), .int .i64 0]) ?_ 1 _ (by exact phCx8_5); (with_reducible repeat (first | refine blk_drewN ?_ _ | refine blk_drew ?_ | refine blk_alloc ?_ _)); refine blk_put (cs := #[.bool false, .string (⟨#[]⟩ : ByteArray), .int .i64 0]) ?_ 0 _ (by exact phCx8_5); (with_reducible repeat (first | refine blk_drewN ?_ _ | refine blk_drew ?_ | refine blk_alloc ?_ _)); refine blk_far ?_ NB226_231.out _; (with_reducible repeat (first | refine blk_drewN ?_ _ | refine blk_drew ?_ | refine blk_alloc ?_ _)); refine blk_far ?_ NB226_231.out _; (with_reducible repeat (first | refine blk_drewN ?_ _ | refine blk_drew ?_ | refine blk_alloc ?_ _)); refine blk_far ?_ NB226_231.out _; (with_reducible repeat (first | refine blk_drewN ?_ _ | refine blk_drew ?_ | refine blk_alloc ?_ _)); refine blk_far ?_ NB226_231.out _; (with_reducible repeat (first | refine blk_drewN ?_ _ | refine blk_drew ?_ | refine blk_alloc ?_ _)); exact BK226.out) Tryz.underlying46 rfl (by kernel_rfl)) rfl ?_
      exact ⟨by exact phCx8_14, by exact phCx8_3⟩
    · rw [if_neg c10] at H
      have c10b0 : (t228 == 0) = false := beq_eq_false_iff_ne.mpr c10
      have c10b1 : (t228 != 0) = true := bne_iff_ne.mpr c10
      replace H := Option.bind_eq_some_iff.mp H
      obtain ⟨t232, A170, H⟩ := H
      try dsimp only at H
      have A17 := Aside0.mk A170
      clear A170
      by_cases c18 : t230 ≥ 0
      · rw [if_pos c18] at H
        have c18b0 : decide (0 ≤ t230) = true := decide_eq_true c18
        clear c18
        replace H := Option.bind_eq_some_iff.mp H
        obtain ⟨⟨t235, t238⟩, A190, H⟩ := H
        try dsimp only at H
        have A19 := Aside0.mk A190
        clear A190
        replace H := Option.bind_eq_some_iff.mp H
        obtain ⟨⟨t239, t240⟩, A200, H⟩ := H
        try dsimp only at H
        have A20 := Aside0.mk A200
        clear A200
        replace H := Option.bind_eq_some_iff.mp H
        obtain ⟨t241, A210, H⟩ := H
        try dsimp only at H
        have A21 := Aside0.mk A210
        clear A210
        simp only [Option.some.injEq, Prod.mk.injEq] at H
        obtain ⟨rfl, rfl, rfl, rfl⟩ := H
        go_enter Tryz.func26, Tryz.ntmps26
        go_wp2_with (first | ((with_reducible refine gate_dst (N := 2) rfl ?_); refine box_event ?hg (N := 2) ?hd (cs := #[.bool false, .string (⟨#[]⟩ : ByteArray), .int .i64 0]) (t := 46) ?hr ?_; (case hd => rfl); (case hg => rfl); (case hr => first | (go_simp; done) | (go_simp; rfl)); intro gb226 hg w22 hbox hb; have n0_ := Aside0.mk (below_step (by exact phCx8_4) hb); have n1_ := Aside0.mk (hbox); have n2_ := Aside0.mk ((by rw [hg]; exact (below_size (by exact phCx8_4)) : w.heap.size ≤ gb226)); have n3_ := Aside0.mk ((by rw [hg]; exact (below_size (by exact phCx8_4)) : w.heap.size ≤ gb226)); clear HB; have HB := n0_; have BK226 := n1_; have GW226 := n2_; have GE226 := n3_; clear n0_ n1_ n2_ n3_; clear hb hbox hg) | (go_at_call 57; (with_reducible refine (ieee_Decode.calls a0 t227 t228 t229 t230 _ A2.out).mono ?_); rintro e w23 ⟨rfl, hb⟩; have n0_ := Aside0.mk (blk_below (g := gb226) (o := .cells #[.bool false, .string (⟨#[]⟩ : ByteArray), .int .i64 0] 46 (0, 0)) (by exact phCx8_1) hb); have n1_ := Aside0.mk (below_step (by exact phCx8_2) hb); clear BK226; clear HB; have BK226 := n0_; have HB := n1_; clear n0_ n1_; (try clear hb); (try clear hb2); (try clear hk); (try clear hi)) | ((with_reducible refine gate_dst (N := 4) rfl ?_); refine box_event ?hg (N := 4) ?hd (cs := #[.bool false, .int .i64 0, .int .u64 0, .int .i64 0]) (t := 99) ?hr ?_; (case hd => rfl); (case hg => rfl); (case hr => first | (go_simp; done) | (go_simp; rfl)); intro gb231 hg w24 hbox hb; have n0_ := Aside0.mk (blk_below (g := gb226) (o := .cells #[.bool false, .string (⟨#[]⟩ : ByteArray), .int .i64 0] 46 (0, 0)) (by exact phCx8_1) hb); have n1_ := Aside0.mk (below_step (by exact phCx8_2) hb); have n2_ := Aside0.mk (hbox); have n3_ := Aside0.mk ((by rw [hg]; exact (below_size (by exact phCx8_2)) : w.heap.size ≤ gb231)); have n4_ := Aside0.mk ((by rw [hg]; exact (below_size (by exact phCx8_2)) : w.heap.size ≤ gb231)); have n5_ := Aside0.mk ((by rw [hg]; exact Nat.ne_of_lt (blk_lt (g := gb226) (o := .cells #[.bool false, .string (⟨#[]⟩ : ByteArray), .int .i64 0] 46 (0, 0)) (by exact phCx8_1)) : gb226 ≠ gb231)); have n6_ := Aside0.mk ((by rw [hg]; exact Nat.ne_of_gt (blk_lt (g := gb226) (o := .cells #[.bool false, .string (⟨#[]⟩ : ByteArray), .int .i64 0] 46 (0, 0)) (by exact phCx8_1)) : gb231 ≠ gb226)); clear BK226; clear HB; have BK226 := n0_; have HB := n1_; have BK231 := n2_; have GW231 := n3_; have GE231 := n4_; have NB226_231 := n5_; have NB231_226 := n6_; clear n0_ n1_ n2_ n3_ n4_ n5_ n6_; clear hb hbox hg; have hnb25 := NB231_226.out; have hnc25 := NB226_231.out; have hcz26_0 : w24.cell? ⟨gb231, 0, none⟩ = some (.bool false) := (blk_cell BK231.out 0).trans rfl; have hcz26_1 : w24.cell? ⟨gb231, 1, none⟩ = some (.int .i64 0) := (blk_cell BK231.out 1).trans rfl; have hcz26_2 : w24.cell? ⟨gb231, 2, none⟩ = some (.int .u64 0) := (blk_cell BK231.out 2).trans rfl; have hcz26_3 : w24.cell? ⟨gb231, 3, none⟩ = some (.int .i64 0) := (blk_cell BK231.out 3).trans rfl; have hfz26_0 := blk_frozen BK231.out 0; have hfz26_1 := blk_frozen BK231.out 1; have hfz26_2 := blk_frozen BK231.out 2; have hfz26_3 := blk_frozen BK231.out 3) | (go_at_call 58; (with_reducible refine (nat_FromUint.calls t229 t232 _ A17.out).mono ?_); rintro e w27 ⟨v233, rfl, ho0, hb⟩; have n0_ := Aside0.mk (Kd.R_lower ho0 (below_size (by exact phCx8_3))); have n1_ := Aside0.mk (blk_below (g := gb226) (o := .cells #[.bool false, .string (⟨#[]⟩ : ByteArray), .int .i64 0] 46 (0, 0)) (by exact phCx8_9) hb); have n2_ := Aside0.mk (blk_below (g := gb231) (o := .cells #[.bool t227, .int .i64 t228, .int .u64 t229, .int .i64 t230] 99 (0, 0)) (by exact phCx8_10) hb); have n3_ := Aside0.mk (below_step (by exact phCx8_3) hb); clear BK226; clear BK231; clear HB; have HO234 := n0_; have BK226 := n1_; have BK231 := n2_; have HB := n3_; clear n0_ n1_ n2_ n3_; (try clear hb); (try clear hb2); (try clear hk); (try clear hi); (try clear ho0); have hcz28_0 : w27.cell? ⟨gb231, 0, none⟩ = some (.bool t227) := (blk_cell BK231.out 0).trans rfl; have hcz28_1 : w27.cell? ⟨gb231, 1, none⟩ = some (.int .i64 t228) := (blk_cell BK231.out 1).trans rfl; have hcz28_2 : w27.cell? ⟨gb231, 2, none⟩ = some (.int .u64 t229) := (blk_cell BK231.out 2).trans rfl; have hcz28_3 : w27.cell? ⟨gb231, 3, none⟩ = some (.int .i64 t230) := (blk_cell BK231.out 3).trans rfl; have hfz28_0 := blk_frozen BK231.out 0; have hfz28_1 := blk_frozen BK231.out 1; have hfz28_2 := blk_frozen BK231.out 2; have hfz28_3 := blk_frozen BK231.out 3; obtain ⟨Ao29, co29, eo29⟩ := Kd.R_slice HO234.out; subst eo29) | (go_at_call 59; (with_reducible refine (nat_Shl.calls k _ _ t232 t230 t235 t238 _ ?side1 ?side2 A19.out).mono ?_); (case side1 => repeat (first | exact (Kd.R_reads' HO234.out).2.2 | (with_reducible refine Kd.C_alloc ?_ _) | (with_reducible refine Kd.C_drewN ?_ _) | (with_reducible refine Kd.C_drew ?_))); (case side2 => exact (Kd.R_reads' HO234.out).2.1); rintro e w30 ⟨v236, rfl, ho0, hb⟩; have n0_ := Aside0.mk (Kd.R_below (by exact phCx8_6) hb); have n1_ := Aside0.mk (Kd.V_lower (Kd.V_mono (ok' := fun k_ => some k_ ≠ (.slice Ao29 t232.length co29 : Value).ownBlock ∧ k_ ≠ gb226 ∧ k_ ≠ gb231) ho0 (fun k_ hk_ => ⟨(Kd.fresh' (Kd.R_lt (by exact phCx8_6)) k_ hk_), (Kd.freshB (g := gb226) (o := .cells #[.bool false, .string (⟨#[]⟩ : ByteArray), .int .i64 0] 46 (0, 0)) (by exact phCx8_1) k_ hk_), (Kd.freshB (g := gb231) (o := .cells #[.bool t227, .int .i64 t228, .int .u64 t229, .int .i64 t230] 99 (0, 0)) (by exact phCx8_7) k_ hk_)⟩)) (below_size (by exact phCx8_3))); have n2_ := Aside0.mk (blk_below (g := gb226) (o := .cells #[.bool false, .string (⟨#[]⟩ : ByteArray), .int .i64 0] 46 (0, 0)) (by exact phCx8_1) hb); have n3_ := Aside0.mk (blk_below (g := gb231) (o := .cells #[.bool t227, .int .i64 t228, .int .u64 t229, .int .i64 t230] 99 (0, 0)) (by exact phCx8_7) hb); have n4_ := Aside0.mk (below_step (by exact phCx8_3) hb); clear HO234; clear BK226; clear BK231; clear HB; have HO234 := n0_; have HO237 := n1_; have BK226 := n2_; have BK231 := n3_; have HB := n4_; clear n0_ n1_ n2_ n3_ n4_; (try clear hb); (try clear hb2); (try clear hk); (try clear hi); (try clear ho0); obtain ⟨Ao31, co31, eo31⟩ := Kd.V_slice HO237.out; subst eo31) | (go_at_call 64; (with_reducible refine (numeral_Digits.calls k _ _ t235 t239 t240 _ ?side1 ?side2 A20.out).mono ?_); (case side1 => repeat (first | exact (Kd.V_reads' HO237.out).2.2 | (with_reducible refine Kd.C_alloc ?_ _) | (with_reducible refine Kd.C_drewN ?_ _) | (with_reducible refine Kd.C_drew ?_))); (case side2 => exact (Kd.V_reads' HO237.out).2.1); rintro e w32 ⟨rfl, hb⟩; have n0_ := Aside0.mk (Kd.R_below (by exact phCx8_6) hb); have n1_ := Aside0.mk (Kd.V_below (by exact phCx8_15) hb); have n2_ := Aside0.mk (blk_below (g := gb226) (o := .cells #[.bool false, .string (⟨#[]⟩ : ByteArray), .int .i64 0] 46 (0, 0)) (by exact phCx8_1) hb); have n3_ := Aside0.mk (blk_below (g := gb231) (o := .cells #[.bool t227, .int .i64 t228, .int .u64 t229, .int .i64 t230] 99 (0, 0)) (by exact phCx8_7) hb); have n4_ := Aside0.mk (below_step (by exact phCx8_3) hb); clear HO234; clear HO237; clear BK226; clear BK231; clear HB; have HO234 := n0_; have HO237 := n1_; have BK226 := n2_; have BK231 := n3_; have HB := n4_; clear n0_ n1_ n2_ n3_ n4_; (try clear hb); (try clear hb2); (try clear hk); (try clear hi)) | (go_at_call 65; (with_reducible refine (strings_TrimRight.calls t239 (⟨#[48]⟩ : ByteArray) t241 _ A21.out).mono ?_); rintro e w' ⟨rfl, ⟨nd, rfl⟩⟩; (try first | exact ⟨rfl, _, World.drewN_drewN _ _ _⟩ | exact ⟨rfl, _, Eq.trans (World.drewN_drewN _ _ _) (congrArg (World.drewN _) (Nat.add_assoc _ _ _))⟩); have hcz33_0 : w32.cell? ⟨gb231, 0, none⟩ = some (.bool t227) := (blk_cell BK231.out 0).trans rfl; have hcz33_1 : w32.cell? ⟨gb231, 1, none⟩ = some (.int .i64 t228) := (blk_cell BK231.out 1).trans rfl; have hcz33_2 : w32.cell? ⟨gb231, 2, none⟩ = some (.int .u64 t229) := (blk_cell BK231.out 2).trans rfl; have hcz33_3 : w32.cell? ⟨gb231, 3, none⟩ = some (.int .i64 t230) := (blk_cell BK231.out 3).trans rfl; have hfz33_0 := blk_frozen BK231.out 0; have hfz33_1 := blk_frozen BK231.out 1; have hfz33_2 := blk_frozen BK231.out 2; have hfz33_3 := blk_frozen BK231.out 3; have hcz34_0 : w32.cell? ⟨gb226, 0, none⟩ = some (.bool false) := (blk_cell BK226.out 0).trans rfl; have hcz34_1 : w32.cell? ⟨gb226, 1, none⟩ = some (.string (⟨#[]⟩ : ByteArray)) := (blk_cell BK226.out 1).trans rfl; have hcz34_2 : w32.cell? ⟨gb226, 2, none⟩ = some (.int .i64 0) := (blk_cell BK226.out 2).trans rfl; have hfz34_0 := blk_frozen BK226.out 0; have hfz34_1 := blk_frozen BK226.out 1; have hfz34_2 := blk_frozen BK226.out 2))
        repeat (go_quiet (fail); try go_wp2_with (fail))
        refine bodyPost_ret (results_ct rfl _ _ gb226 46 #[.bool t227, .string t241, .int .i64 (wrap64 ((wrap64 ((t239.size : Int))) - (t241.size : Int)))] (0, 0) _ rfl (by (with_reducible repeat (first | refine blk_drewN ?_ _ | refine blk_drew ?_ | refine blk_alloc ?_ _)); refine blk_put (cs := #[.bool t227, .string t241, .int .i64 0]) ?_ 2 _ (by exact phCx8_5); (with_reducible repeat (first | refine blk_drewN ?_ _ | refine blk_drew ?_ | refine blk_alloc ?_ _)); refine blk_put (cs := #[.bool t227, .string (⟨#[]⟩ : ByteArray), .int .i64 0]) ?_ 1 _ (by exact phCx8_5); (with_reducible repeat (first | refine blk_drewN ?_ _ | refine blk_drew ?_ | refine blk_alloc ?_ _)); refine blk_put (cs := #[.bool false, .string (⟨#[]⟩ : ByteArray), .int .i64 0]) ?_ 0 _ (by exact phCx8_5); (with_reducible repeat (first | refine blk_drewN ?_ _ | refine blk_drew ?_ | refine blk_alloc ?_ _)); exact BK226.out) Tryz.underlying46 rfl (by kernel_rfl)) rfl ?_
        exact ⟨by exact phCx8_14, by exact phCx8_3⟩
      · rw [if_neg c18] at H
        have c18b0 : decide (0 ≤ t230) = false := decide_eq_false c18
        clear c18
        replace H := Option.bind_eq_some_iff.mp H
        obtain ⟨t242, A350, H⟩ := H
        try dsimp only at H
        have A35 := Aside0.mk A350
        clear A350
        obtain ⟨ji36, hji36⟩ : ∃ j_ : Int, (mx (wrap64 ((wrap64 (-t230)) - t242)) 0) = j_ := ⟨_, rfl⟩
        replace H : ((nat_Shr.f k t232 (wrap64 ((wrap64 (-t230)) - (ji36)))).bind fun bt243 => ((quot_Pow5.f k (ji36)).bind fun bt248 => ((nat_Mul.f k bt243.1 bt248.1).bind fun bt252 => ((numeral_Digits.f k bt252.1).bind fun bt256 => ((strings_TrimRight.f bt256.1 (⟨#[48]⟩ : ByteArray)).bind fun t258 => (some (t227, t258, wrap64 ((wrap64 ((wrap64 (-(ji36))) + (bt256.1.size : Int))) - (t258.size : Int)), 0))))))) = some (r1, r2, r3, r4) := by first | (rw [hji36] at H; exact H) | (simp only [hji36] at H ⊢; exact H)
        (try rw [hji36] at A2)
        (try rw [hji36] at A17)
        (try rw [hji36] at A35)
        (try (have hji36l : 0 ≤ ji36 := by (rw [← hji36]; unfold mx; (repeat' split) <;> omega)))
        (try (have hji36m : 0 ≤ ji36 := by omega))
        have hji36_ : (if (wrap64 ((wrap64 (-t230)) - t242)) < 0 then 0 else (wrap64 ((wrap64 (-t230)) - t242))) = ji36 := hji36
        replace H := Option.bind_eq_some_iff.mp H
        obtain ⟨⟨t243, t246, t247⟩, A370, H⟩ := H
        try dsimp only at H
        have A37 := Aside0.mk A370
        clear A370
        replace H := Option.bind_eq_some_iff.mp H
        obtain ⟨⟨t248, t251⟩, A380, H⟩ := H
        try dsimp only at H
        have A38 := Aside0.mk A380
        clear A380
        replace H := Option.bind_eq_some_iff.mp H
        obtain ⟨⟨t252, t255⟩, A390, H⟩ := H
        try dsimp only at H
        have A39 := Aside0.mk A390
        clear A390
        replace H := Option.bind_eq_some_iff.mp H
        obtain ⟨⟨t256, t257⟩, A400, H⟩ := H
        try dsimp only at H
        have A40 := Aside0.mk A400
        clear A400
        replace H := Option.bind_eq_some_iff.mp H
        obtain ⟨t258, A410, H⟩ := H
        try dsimp only at H
        have A41 := Aside0.mk A410
        clear A410
        simp only [Option.some.injEq, Prod.mk.injEq] at H
        obtain ⟨rfl, rfl, rfl, rfl⟩ := H
        go_enter Tryz.func26, Tryz.ntmps26
        go_wp2_with (first | ((with_reducible refine gate_dst (N := 2) rfl ?_); refine box_event ?hg (N := 2) ?hd (cs := #[.bool false, .string (⟨#[]⟩ : ByteArray), .int .i64 0]) (t := 46) ?hr ?_; (case hd => rfl); (case hg => rfl); (case hr => first | (go_simp; done) | (go_simp; rfl)); intro gb226 hg w42 hbox hb; have n0_ := Aside0.mk (below_step (by exact phCx8_4) hb); have n1_ := Aside0.mk (hbox); have n2_ := Aside0.mk ((by rw [hg]; exact (below_size (by exact phCx8_4)) : w.heap.size ≤ gb226)); have n3_ := Aside0.mk ((by rw [hg]; exact (below_size (by exact phCx8_4)) : w.heap.size ≤ gb226)); clear HB; have HB := n0_; have BK226 := n1_; have GW226 := n2_; have GE226 := n3_; clear n0_ n1_ n2_ n3_; clear hb hbox hg) | (go_at_call 57; (with_reducible refine (ieee_Decode.calls a0 t227 t228 t229 t230 _ A2.out).mono ?_); rintro e w43 ⟨rfl, hb⟩; have n0_ := Aside0.mk (blk_below (g := gb226) (o := .cells #[.bool false, .string (⟨#[]⟩ : ByteArray), .int .i64 0] 46 (0, 0)) (by exact phCx8_1) hb); have n1_ := Aside0.mk (below_step (by exact phCx8_2) hb); clear BK226; clear HB; have BK226 := n0_; have HB := n1_; clear n0_ n1_; (try clear hb); (try clear hb2); (try clear hk); (try clear hi)) | ((with_reducible refine gate_dst (N := 4) rfl ?_); refine box_event ?hg (N := 4) ?hd (cs := #[.bool false, .int .i64 0, .int .u64 0, .int .i64 0]) (t := 99) ?hr ?_; (case hd => rfl); (case hg => rfl); (case hr => first | (go_simp; done) | (go_simp; rfl)); intro gb231 hg w44 hbox hb; have n0_ := Aside0.mk (blk_below (g := gb226) (o := .cells #[.bool false, .string (⟨#[]⟩ : ByteArray), .int .i64 0] 46 (0, 0)) (by exact phCx8_1) hb); have n1_ := Aside0.mk (below_step (by exact phCx8_2) hb); have n2_ := Aside0.mk (hbox); have n3_ := Aside0.mk ((by rw [hg]; exact (below_size (by exact phCx8_2)) : w.heap.size ≤ gb231)); have n4_ := Aside0.mk ((by rw [hg]; exact (below_size (by exact phCx8_2)) : w.heap.size ≤ gb231)); have n5_ := Aside0.mk ((by rw [hg]; exact Nat.ne_of_lt (blk_lt (g := gb226) (o := .cells #[.bool false, .string (⟨#[]⟩ : ByteArray), .int .i64 0] 46 (0, 0)) (by exact phCx8_1)) : gb226 ≠ gb231)); have n6_ := Aside0.mk ((by rw [hg]; exact Nat.ne_of_gt (blk_lt (g := gb226) (o := .cells #[.bool false, .string (⟨#[]⟩ : ByteArray), .int .i64 0] 46 (0, 0)) (by exact phCx8_1)) : gb231 ≠ gb226)); clear BK226; clear HB; have BK226 := n0_; have HB := n1_; have BK231 := n2_; have GW231 := n3_; have GE231 := n4_; have NB226_231 := n5_; have NB231_226 := n6_; clear n0_ n1_ n2_ n3_ n4_ n5_ n6_; clear hb hbox hg; have hnb45 := NB231_226.out; have hnc45 := NB226_231.out; have hcz46_0 : w44.cell? ⟨gb231, 0, none⟩ = some (.bool false) := (blk_cell BK231.out 0).trans rfl; have hcz46_1 : w44.cell? ⟨gb231, 1, none⟩ = some (.int .i64 0) := (blk_cell BK231.out 1).trans rfl; have hcz46_2 : w44.cell? ⟨gb231, 2, none⟩ = some (.int .u64 0) := (blk_cell BK231.out 2).trans rfl; have hcz46_3 : w44.cell? ⟨gb231, 3, none⟩ = some (.int .i64 0) := (blk_cell BK231.out 3).trans rfl; have hfz46_0 := blk_frozen BK231.out 0; have hfz46_1 := blk_frozen BK231.out 1; have hfz46_2 := blk_frozen BK231.out 2; have hfz46_3 := blk_frozen BK231.out 3) | (go_at_call 58; (with_reducible refine (nat_FromUint.calls t229 t232 _ A17.out).mono ?_); rintro e w47 ⟨v233, rfl, ho0, hb⟩; have n0_ := Aside0.mk (Kd.R_lower ho0 (below_size (by exact phCx8_3))); have n1_ := Aside0.mk (blk_below (g := gb226) (o := .cells #[.bool false, .string (⟨#[]⟩ : ByteArray), .int .i64 0] 46 (0, 0)) (by exact phCx8_9) hb); have n2_ := Aside0.mk (blk_below (g := gb231) (o := .cells #[.bool t227, .int .i64 t228, .int .u64 t229, .int .i64 t230] 99 (0, 0)) (by exact phCx8_10) hb); have n3_ := Aside0.mk (below_step (by exact phCx8_3) hb); clear BK226; clear BK231; clear HB; have HO234 := n0_; have BK226 := n1_; have BK231 := n2_; have HB := n3_; clear n0_ n1_ n2_ n3_; (try clear hb); (try clear hb2); (try clear hk); (try clear hi); (try clear ho0); have hcz48_0 : w47.cell? ⟨gb231, 0, none⟩ = some (.bool t227) := (blk_cell BK231.out 0).trans rfl; have hcz48_1 : w47.cell? ⟨gb231, 1, none⟩ = some (.int .i64 t228) := (blk_cell BK231.out 1).trans rfl; have hcz48_2 : w47.cell? ⟨gb231, 2, none⟩ = some (.int .u64 t229) := (blk_cell BK231.out 2).trans rfl; have hcz48_3 : w47.cell? ⟨gb231, 3, none⟩ = some (.int .i64 t230) := (blk_cell BK231.out 3).trans rfl; have hfz48_0 := blk_frozen BK231.out 0; have hfz48_1 := blk_frozen BK231.out 1; have hfz48_2 := blk_frozen BK231.out 2; have hfz48_3 := blk_frozen BK231.out 3; obtain ⟨Ao49, co49, eo49⟩ := Kd.R_slice HO234.out; subst eo49))
        repeat (go_quiet (first | (go_at_call 60; (with_reducible refine (nat_Trail.calls k _ _ t232 t242 _ ?side1 ?side2 A35.out).mono ?_); (case side1 => repeat (first | exact (Kd.R_reads' HO234.out).2.2 | (with_reducible refine Kd.C_alloc ?_ _) | (with_reducible refine Kd.C_drewN ?_ _) | (with_reducible refine Kd.C_drew ?_))); (case side2 => exact (Kd.R_reads' HO234.out).2.1); rintro e w' ⟨rfl, ⟨nd, rfl⟩⟩; (try first | exact ⟨rfl, _, World.drewN_drewN _ _ _⟩ | exact ⟨rfl, _, Eq.trans (World.drewN_drewN _ _ _) (congrArg (World.drewN _) (Nat.add_assoc _ _ _))⟩))); try go_wp2_with (first | (go_at_call 61; (with_reducible refine (nat_Shr.calls k _ _ t232 (wrap64 ((wrap64 (-t230)) - (ji36))) t243 t246 t247 _ ?side1 ?side2 A37.out).mono ?_); (case side1 => repeat (first | exact (Kd.R_reads' HO234.out).2.2 | (with_reducible refine Kd.C_alloc ?_ _) | (with_reducible refine Kd.C_drewN ?_ _) | (with_reducible refine Kd.C_drew ?_))); (case side2 => exact (Kd.R_reads' HO234.out).2.1); rintro e w50 ⟨v244, rfl, ho0, hb⟩; have n0_ := Aside0.mk (Kd.R_below (by exact phCx8_6) hb); have n1_ := Aside0.mk (Kd.V_lower (Kd.V_mono (ok' := fun k_ => some k_ ≠ (.slice Ao49 t232.length co49 : Value).ownBlock ∧ k_ ≠ gb226 ∧ k_ ≠ gb231) ho0 (fun k_ hk_ => ⟨(Kd.fresh' (Kd.R_lt (by exact phCx8_6)) k_ hk_), (Kd.freshB (g := gb226) (o := .cells #[.bool false, .string (⟨#[]⟩ : ByteArray), .int .i64 0] 46 (0, 0)) (by exact phCx8_1) k_ hk_), (Kd.freshB (g := gb231) (o := .cells #[.bool t227, .int .i64 t228, .int .u64 t229, .int .i64 t230] 99 (0, 0)) (by exact phCx8_7) k_ hk_)⟩)) (below_size (by exact phCx8_3))); have n2_ := Aside0.mk (blk_below (g := gb226) (o := .cells #[.bool false, .string (⟨#[]⟩ : ByteArray), .int .i64 0] 46 (0, 0)) (by exact phCx8_1) hb); have n3_ := Aside0.mk (blk_below (g := gb231) (o := .cells #[.bool t227, .int .i64 t228, .int .u64 t229, .int .i64 t230] 99 (0, 0)) (by exact phCx8_7) hb); have n4_ := Aside0.mk (below_step (by exact phCx8_3) hb); clear HO234; clear BK226; clear BK231; clear HB; have HO234 := n0_; have HO245 := n1_; have BK226 := n2_; have BK231 := n3_; have HB := n4_; clear n0_ n1_ n2_ n3_ n4_; (try clear hb); (try clear hb2); (try clear hk); (try clear hi); (try clear ho0)) | (go_at_call 62; (with_reducible refine (quot_Pow5.calls k ji36 t248 t251 _ A38.out).mono ?_); rintro e w51 ⟨v249, rfl, ho0, hb⟩; have n0_ := Aside0.mk (Kd.R_below (by exact phCx8_6) hb); have n1_ := Aside0.mk (Kd.V_below (by exact phCx8_8) hb); have n2_ := Aside0.mk (Kd.V_lower (Kd.V_mono (ok' := fun k_ => some k_ ≠ (.slice Ao49 t232.length co49 : Value).ownBlock ∧ k_ ≠ gb226 ∧ k_ ≠ gb231) ho0 (fun k_ hk_ => ⟨(Kd.fresh' (Kd.R_lt (by exact phCx8_6)) k_ hk_), (Kd.freshB (g := gb226) (o := .cells #[.bool false, .string (⟨#[]⟩ : ByteArray), .int .i64 0] 46 (0, 0)) (by exact phCx8_1) k_ hk_), (Kd.freshB (g := gb231) (o := .cells #[.bool t227, .int .i64 t228, .int .u64 t229, .int .i64 t230] 99 (0, 0)) (by exact phCx8_7) k_ hk_)⟩)) (below_size (by exact phCx8_3))); have n3_ := Aside0.mk (blk_below (g := gb226) (o := .cells #[.bool false, .string (⟨#[]⟩ : ByteArray), .int .i64 0] 46 (0, 0)) (by exact phCx8_1) hb); have n4_ := Aside0.mk (blk_below (g := gb231) (o := .cells #[.bool t227, .int .i64 t228, .int .u64 t229, .int .i64 t230] 99 (0, 0)) (by exact phCx8_7) hb); have n5_ := Aside0.mk (below_step (by exact phCx8_3) hb); clear HO234; clear HO245; clear BK226; clear BK231; clear HB; have HO234 := n0_; have HO245 := n1_; have HO250 := n2_; have BK226 := n3_; have BK231 := n4_; have HB := n5_; clear n0_ n1_ n2_ n3_ n4_ n5_; (try clear hb); (try clear hb2); (try clear hk); (try clear hi); (try clear ho0); obtain ⟨Ao52, co52, eo52⟩ := Kd.V_slice HO245.out; subst eo52; obtain ⟨Ao53, co53, eo53⟩ := Kd.V_slice HO250.out; subst eo53) | (go_at_call 63; (with_reducible refine (nat_Mul.calls k _ _ t243 _ _ t248 t252 t255 _ ?side1 ?side2 ?side3 ?side4 A39.out).mono ?_); (case side1 => repeat (first | exact (Kd.V_reads' HO245.out).2.2 | (with_reducible refine Kd.C_alloc ?_ _) | (with_reducible refine Kd.C_drewN ?_ _) | (with_reducible refine Kd.C_drew ?_))); (case side2 => exact (Kd.V_reads' HO245.out).2.1); (case side3 => repeat (first | exact (Kd.V_reads' HO250.out).2.2 | (with_reducible refine Kd.C_alloc ?_ _) | (with_reducible refine Kd.C_drewN ?_ _) | (with_reducible refine Kd.C_drew ?_))); (case side4 => exact (Kd.V_reads' HO250.out).2.1); rintro e w54 ⟨v253, rfl, ho0, hb⟩; have n0_ := Aside0.mk (Kd.R_below (by exact phCx8_6) hb); have n1_ := Aside0.mk (Kd.V_below (by exact phCx8_8) hb); have n2_ := Aside0.mk (Kd.V_below (by exact phCx8_11) hb); have n3_ := Aside0.mk (Kd.V_lower (Kd.V_mono (ok' := fun k_ => some k_ ≠ (.slice Ao49 t232.length co49 : Value).ownBlock ∧ k_ ≠ gb226 ∧ k_ ≠ gb231) ho0 (fun k_ hk_ => ⟨(Kd.fresh' (Kd.R_lt (by exact phCx8_6)) k_ hk_), (Kd.freshB (g := gb226) (o := .cells #[.bool false, .string (⟨#[]⟩ : ByteArray), .int .i64 0] 46 (0, 0)) (by exact phCx8_1) k_ hk_), (Kd.freshB (g := gb231) (o := .cells #[.bool t227, .int .i64 t228, .int .u64 t229, .int .i64 t230] 99 (0, 0)) (by exact phCx8_7) k_ hk_)⟩)) (below_size (by exact phCx8_3))); have n4_ := Aside0.mk (blk_below (g := gb226) (o := .cells #[.bool false, .string (⟨#[]⟩ : ByteArray), .int .i64 0] 46 (0, 0)) (by exact phCx8_1) hb); have n5_ := Aside0.mk (blk_below (g := gb231) (o := .cells #[.bool t227, .int .i64 t228, .int .u64 t229, .int .i64 t230] 99 (0, 0)) (by exact phCx8_7) hb); have n6_ := Aside0.mk (below_step (by exact phCx8_3) hb); clear HO234; clear HO245; clear HO250; clear BK226; clear BK231; clear HB; have HO234 := n0_; have HO245 := n1_; have HO250 := n2_; have HO254 := n3_; have BK226 := n4_; have BK231 := n5_; have HB := n6_; clear n0_ n1_ n2_ n3_ n4_ n5_ n6_; (try clear hb); (try clear hb2); (try clear hk); (try clear hi); (try clear ho0); obtain ⟨Ao55, co55, eo55⟩ := Kd.V_slice HO254.out; subst eo55) | (go_at_call 64; (with_reducible refine (numeral_Digits.calls k _ _ t252 t256 t257 _ ?side1 ?side2 A40.out).mono ?_); (case side1 => repeat (first | exact (Kd.V_reads' HO254.out).2.2 | (with_reducible refine Kd.C_alloc ?_ _) | (with_reducible refine Kd.C_drewN ?_ _) | (with_reducible refine Kd.C_drew ?_))); (case side2 => exact (Kd.V_reads' HO254.out).2.1); rintro e w56 ⟨rfl, hb⟩; have n0_ := Aside0.mk (Kd.R_below (by exact phCx8_6) hb); have n1_ := Aside0.mk (Kd.V_below (by exact phCx8_8) hb); have n2_ := Aside0.mk (Kd.V_below (by exact phCx8_11) hb); have n3_ := Aside0.mk (Kd.V_below (by exact phCx8_16) hb); have n4_ := Aside0.mk (blk_below (g := gb226) (o := .cells #[.bool false, .string (⟨#[]⟩ : ByteArray), .int .i64 0] 46 (0, 0)) (by exact phCx8_1) hb); have n5_ := Aside0.mk (blk_below (g := gb231) (o := .cells #[.bool t227, .int .i64 t228, .int .u64 t229, .int .i64 t230] 99 (0, 0)) (by exact phCx8_7) hb); have n6_ := Aside0.mk (below_step (by exact phCx8_3) hb); clear HO234; clear HO245; clear HO250; clear HO254; clear BK226; clear BK231; clear HB; have HO234 := n0_; have HO245 := n1_; have HO250 := n2_; have HO254 := n3_; have BK226 := n4_; have BK231 := n5_; have HB := n6_; clear n0_ n1_ n2_ n3_ n4_ n5_ n6_; (try clear hb); (try clear hb2); (try clear hk); (try clear hi)) | (go_at_call 65; (with_reducible refine (strings_TrimRight.calls t256 (⟨#[48]⟩ : ByteArray) t258 _ A41.out).mono ?_); rintro e w' ⟨rfl, ⟨nd, rfl⟩⟩; (try first | exact ⟨rfl, _, World.drewN_drewN _ _ _⟩ | exact ⟨rfl, _, Eq.trans (World.drewN_drewN _ _ _) (congrArg (World.drewN _) (Nat.add_assoc _ _ _))⟩); have hcz57_0 : w56.cell? ⟨gb231, 0, none⟩ = some (.bool t227) := (blk_cell BK231.out 0).trans rfl; have hcz57_1 : w56.cell? ⟨gb231, 1, none⟩ = some (.int .i64 t228) := (blk_cell BK231.out 1).trans rfl; have hcz57_2 : w56.cell? ⟨gb231, 2, none⟩ = some (.int .u64 t229) := (blk_cell BK231.out 2).trans rfl; have hcz57_3 : w56.cell? ⟨gb231, 3, none⟩ = some (.int .i64 t230) := (blk_cell BK231.out 3).trans rfl; have hfz57_0 := blk_frozen BK231.out 0; have hfz57_1 := blk_frozen BK231.out 1; have hfz57_2 := blk_frozen BK231.out 2; have hfz57_3 := blk_frozen BK231.out 3; have hcz58_0 : w56.cell? ⟨gb226, 0, none⟩ = some (.bool false) := (blk_cell BK226.out 0).trans rfl; have hcz58_1 : w56.cell? ⟨gb226, 1, none⟩ = some (.string (⟨#[]⟩ : ByteArray)) := (blk_cell BK226.out 1).trans rfl; have hcz58_2 : w56.cell? ⟨gb226, 2, none⟩ = some (.int .i64 0) := (blk_cell BK226.out 2).trans rfl; have hfz58_0 := blk_frozen BK226.out 0; have hfz58_1 := blk_frozen BK226.out 1; have hfz58_2 := blk_frozen BK226.out 2)))
        refine bodyPost_ret (results_ct rfl _ _ gb226 46 #[.bool t227, .string t258, .int .i64 (wrap64 ((wrap64 ((wrap64 (-(ji36))) + (t256.size : Int))) - (t258.size : Int)))] (0, 0) _ rfl (by (with_reducible repeat (first | refine blk_drewN ?_ _ | refine blk_drew ?_ | refine blk_alloc ?_ _)); refine blk_put (cs := #[.bool t227, .string t258, .int .i64 0]) ?_ 2 _ (by exact phCx8_5); (with_reducible repeat (first | refine blk_drewN ?_ _ | refine blk_drew ?_ | refine blk_alloc ?_ _)); refine blk_put (cs := #[.bool t227, .string (⟨#[]⟩ : ByteArray), .int .i64 0]) ?_ 1 _ (by exact phCx8_5); (with_reducible repeat (first | refine blk_drewN ?_ _ | refine blk_drew ?_ | refine blk_alloc ?_ _)); refine blk_put (cs := #[.bool false, .string (⟨#[]⟩ : ByteArray), .int .i64 0]) ?_ 0 _ (by exact phCx8_5); (with_reducible repeat (first | refine blk_drewN ?_ _ | refine blk_drew ?_ | refine blk_alloc ?_ _)); exact BK226.out) Tryz.underlying46 rfl (by kernel_rfl)) rfl ?_
        exact ⟨by first | rfl | (simp [errW_none, errW_some] <;> rfl) | (simp only [append_nothing]; done) | (simp only [append_nothing]; rfl) | (simp only [← hji36]; first | rfl | (simp [errW_none, errW_some] <;> rfl)) | (simp [*, errW_none, errW_some] <;> rfl), by exact phCx8_3⟩

/-! ### numeral_Round: function 93 -/
def numeral_Round.f (k : Nat) (a0 : ByteArray) (a1 : Int) (a2 : Bool) : Option (ByteArray × Bool × Int) := if a0.size ≤ 140737488355328 ∧ a1 ≤ 9223372036854775807 then some (roundF a0 a1 a2) else none
theorem numeral_Round.mono : ∀ a0 a1 a2 k, LeO (numeral_Round.f k a0 a1 a2) (numeral_Round.f (k + 1) a0 a1 a2) := by
  intro a0 a1 a2 k
  exact LeO.refl _
theorem numeral_Round.calls (k : Nat) (a0 : ByteArray) (a1 : Int) (a2 : Bool) (r1 : ByteArray) (r2 : Bool) (r3 : Int) (w : World) (h : numeral_Round.f k a0 a1 a2 = some (r1, r2, r3)) (HG : Aside0 (GW w) := by exact phCx8_12) :
    Calls Tryz.prog 93 #[.string a0, .int .i64 a1, .bool a2] w fun e w' => e = .returned (.tuple #[.string r1, .bool r2, .int .i64 r3]) ∧ Below w.heap.size w w' := by
  unfold numeral_Round.f at h
  split at h
  · rename_i h0
    have hr := Option.some.inj h
    refine (Round_walk a0 a1 a2 w h0.1 h0.2 (fun t u ht => ?_)).mono ?_
    · refine (Tryz.strings_Trim_one t 48 (by decide) u ht).mono ?_
      rintro e u' ⟨he, hu⟩
      refine ⟨he, ?_⟩
      rcases hu with h2 | h2
      · exact ⟨0, h2⟩
      · exact ⟨1, h2⟩
    · rintro e w' ⟨he, hb⟩
      rw [hr] at he
      exact ⟨he, hb⟩
  · cases h

end Go.Proofs.YtgbjojokjekmhaaGreatDoor.PXC
