/- The machine's side of a law, printed by a program of this session out of the translation; conditions: none. -/
import Derived.Test.YtmbacdkpgfbclaaGreatDoorProg
import Derived.Below
import Derived.Deep.Draws
import Derived.Deep.AppendLies
import Derived.Maps.AppendAt
import Derived.OwnWalk
import Derived.Laws.BytesArg
import Derived.Laws.MakeOwn
import Derived.Laws.OwnMore
import Derived.Deep.OwnRows
import Derived.Tactics
import Derived.Lib.ConvBytes
import Derived.Laws.Slices
import Derived.WalkKit
import Derived.KernelRfl
import Derived.RowKit3
import Derived.Deep.LoopGhost
import Derived.Deep.QuietTactic
import Derived.BigQuiet
import Derived.WideLaws
import Derived.Deep.DeepCutAuto
import Derived.Deep.CutBlock
import Derived.Deep.RegionHeld3
import Derived.Laws.Rows
import Derived.Lib.AppendStr
import Derived.ArgAppend
import Derived.Laws.IdiomCopy
import Derived.OrdersHeld
import Derived.Laws.BitsLemmas
import Derived.RowKit
import Derived.Test.YtmbacdkpgfbclaaGreatDoorRecJ
import Derived.Test.YtmbacdkpgfbclaaGreatDoorWWords
import Derived.Test.YtmbacdkpgfbclaaGreatDoorWLast
import Derived.Test.YtmbacdkpgfbclaaGreatDoorWTab
import Derived.Test.YtmbacdkpgfbclaaGreatDoorWFour
import Derived.Test.YtmbacdkpgfbclaaGreatDoorWQPut
import Derived.Test.YtmbacdkpgfbclaaGreatDoorWApart
import Derived.Test.YtmbacdkpgfbclaaGreatDoorWArr
import Derived.Test.YtmbacdkpgfbclaaGreatDoorWZeros
import Derived.Test.YtmbacdkpgfbclaaGreatDoorWFoot
import Derived.Test.YtmbacdkpgfbclaaGreatDoorWKept
import Derived.Test.YtmbacdkpgfbclaaGreatDoorWShare
import Derived.Test.YtmbacdkpgfbclaaGreatDoorWN
import Derived.Test.YtmbacdkpgfbclaaGreatDoorWFootNe
import Derived.Test.YtmbacdkpgfbclaaGreatDoorWAt
import Derived.Test.YtmbacdkpgfbclaaGreatDoorWEqStruct
import Derived.Test.YtmbacdkpgfbclaaGreatDoorWRepsOne
import Derived.Test.YtmbacdkpgfbclaaGreatDoorWInv
import Derived.Test.YtmbacdkpgfbclaaGreatDoorWInvWords
import Derived.Test.YtmbacdkpgfbclaaGreatDoorWGuard
import Derived.Test.YtmbacdkpgfbclaaGreatDoorWNEv
import Derived.Test.YtmbacdkpgfbclaaGreatDoorWMore
namespace Go.Proofs.YtmbacdkpgfbclaaGreatDoor.PXJ
open Go.Proofs.YtmbacdkpgfbclaaGreatDoor
open Go.RowKit Go.Proofs.YtmbacdkpgfbclaaGreatDoorW.PrintWords Go.Proofs.YtmbacdkpgfbclaaGreatDoorW.PrintLast Go.Proofs.YtmbacdkpgfbclaaGreatDoorW.PrintMore
attribute [local go_sem] max2_int min2_int max_two min_two max_three min_three max_four min_four   -- for this text's walks alone
set_option linter.unusedVariables false
set_option linter.unusedSimpArgs false



def errW : Option Int → Value
  | none => .nilIface
  | some c => .iface 0 (.int .i64 c)
theorem errW_none : errW none = .nilIface := rfl
theorem errW_some (c : Int) : errW (some c) = .iface 0 (.int .i64 c) := rfl

theorem info5 : (Tryz.prog.info? 5).map (fun i => (i.zero, i.size, i.bytes)) = some (some (.int .u8 0), 1, 1) := by kernel_rfl
-- the values' own types

end Go.Proofs.YtmbacdkpgfbclaaGreatDoor.PXJ
namespace Go.Proofs.YtmbacdkpgfbclaaGreatDoor.PXJ
open Go.Proofs.YtmbacdkpgfbclaaGreatDoor
open Go.RowKit Go.Proofs.YtmbacdkpgfbclaaGreatDoorW.PrintWords Go.Proofs.YtmbacdkpgfbclaaGreatDoorW.PrintLast Go.Proofs.YtmbacdkpgfbclaaGreatDoorW.PrintMore
attribute [local go_sem] max2_int min2_int max_two min_two max_three min_three max_four min_four   -- for this text's walks alone
set_option linter.unusedVariables false
set_option linter.unusedSimpArgs false

/-! ### abacuslaw21_awake: function 30 -/
def abacuslaw21_awake.f : Option (Bool) := some true
theorem abacuslaw21_awake.calls (r : Bool) (w : World) (h : abacuslaw21_awake.f = some r) (HG : Aside0 (GW w) := by first | (with_reducible exact HG) | exact ⟨GW.below HG.out (by repeat (first | (with_reducible first | exact HB.out | apply below_alloc | apply pw_below_drewN | apply below_drew1) | (with_reducible refine below_set ?_ (Aside0.out (by assumption))) | exact HB.out | exact Below.refl _ _))⟩ | exact ⟨GW.drewN HG.out _⟩ | exact ⟨GW.drew HG.out⟩ | exact ⟨GW.drewN (GW.drewN HG.out _) _⟩ | exact ⟨GW.drewN (GW.drew HG.out) _⟩) :
    Calls Tryz.prog 30 #[] w fun e w' => e = .returned (.bool r) ∧ Below w.heap.size w w' := by
  cases h
  exact awake_walk w HG.out

/-! ### record_Lines: function 39 -/
def record_Lines.f (a0 : ByteArray) (a1 : ByteArray) : Option (List ByteArray) := if a0.size < 4294967281 ∧ 1 ≤ a1.size then some (linesOf a0 a1) else none
theorem record_Lines.calls (a0 : ByteArray) (a1 : ByteArray) (r : List ByteArray) (w : World) (h : record_Lines.f a0 a1 = some r) (HG : Aside0 (GW w) := by first | (with_reducible exact HG) | exact ⟨GW.below HG.out (by repeat (first | (with_reducible first | exact HB.out | apply below_alloc | apply pw_below_drewN | apply below_drew1) | (with_reducible refine below_set ?_ (Aside0.out (by assumption))) | exact HB.out | exact Below.refl _ _))⟩ | exact ⟨GW.drewN HG.out _⟩ | exact ⟨GW.drew HG.out⟩ | exact ⟨GW.drewN (GW.drewN HG.out _) _⟩ | exact ⟨GW.drewN (GW.drew HG.out) _⟩) :
    Calls Tryz.prog 39 #[.string a0, .string a1] w fun e w' => ∃ v0_ : Value, e = .returned (v0_) ∧ Kd.R Kd.string 9 w' w.heap.size (fun _ => True) v0_ r ∧ Below w.heap.size w w' := by
  unfold record_Lines.f at h
  split at h
  · rename_i h2
    cases h
    refine (Lines_walk a0 a1 h2.1 h2.2 w HG.out).mono ?_
    rintro e w' ⟨v, rfl, ho, hb⟩
    exact ⟨v, rfl, Kd.R_of_own (h1 := fun _ => rfl) (ok := fun _ => True) ho (fun _ _ => trivial), hb⟩
  · cases h

/-! ### abacuslaw21_holds: function 43 -/
def abacuslaw21_holds.l0 : Nat → ByteArray → ByteArray → Int → Option (Bool)
  | 0, _, _, _ => none
  | k + 1, x0, x1, x5 => if (wrap64 (x5 + (x1.size : Int))) ≤ (x0.size : Int) then (if 0 ≤ x5 then (if x5 ≤ (wrap64 (x5 + (x1.size : Int))) then (if (x0.extract (x5 : Int).toNat ((wrap64 (x5 + (x1.size : Int))) : Int).toNat).toList = x1.toList then (some true) else (abacuslaw21_holds.l0 k x0 x1 (wrap64 (x5 + 1)))) else (none)) else (none)) else (some false)
def abacuslaw21_holds.f (k : Nat) (a0 : ByteArray) (a1 : ByteArray) : Option (Bool) := abacuslaw21_holds.l0 k a0 a1 0
theorem abacuslaw21_holds.mono_l : ∀ k, (∀ y0 y1 y2, LeO (abacuslaw21_holds.l0 k y0 y1 y2) (abacuslaw21_holds.l0 (k + 1) y0 y1 y2))
  | 0 => fun _ _ _ r h => by simp [abacuslaw21_holds.l0] at h
  | k + 1 => by
    have ih0 := abacuslaw21_holds.mono_l k
    · intro y0 y1 y2
      unfold abacuslaw21_holds.l0
      repeat' first
      | (with_reducible exact ih0 _ _ _)
      | (with_reducible exact LeO.refl _)
      | (with_reducible exact LeO.none _)
      | (with_reducible refine LeO.ite ?_ ?_)
      | (with_reducible refine LeO.bind ?_ (fun _ => ?_))
      | exact ih0 _ _ _
      | exact LeO.none _
      | refine LeO.ite ?_ ?_
      | refine LeO.bind ?_ (fun _ => ?_)
theorem abacuslaw21_holds.mono : ∀ a0 a1 k, LeO (abacuslaw21_holds.f k a0 a1) (abacuslaw21_holds.f (k + 1) a0 a1) := by
  intro a0 a1 k
  have ih0 := abacuslaw21_holds.mono_l k
  unfold abacuslaw21_holds.f
  repeat' first
      | (with_reducible exact ih0 _ _ _)
      | (with_reducible exact LeO.refl _)
      | (with_reducible exact LeO.none _)
      | (with_reducible refine LeO.ite ?_ ?_)
      | (with_reducible refine LeO.bind ?_ (fun _ => ?_))
      | exact ih0 _ _ _
      | exact LeO.none _
      | refine LeO.ite ?_ ?_
      | refine LeO.bind ?_ (fun _ => ?_)
set_option maxHeartbeats 8000000 in
set_option maxRecDepth 100000 in
theorem abacuslaw21_holds.calls (k : Nat) (a0 : ByteArray) (a1 : ByteArray) (r : Bool) (w : World) (h : abacuslaw21_holds.f k a0 a1 = some r) (HG : Aside0 (GW w) := by first | (with_reducible exact HG) | exact ⟨GW.below HG.out (by repeat (first | (with_reducible first | exact HB.out | apply below_alloc | apply pw_below_drewN | apply below_drew1) | (with_reducible refine below_set ?_ (Aside0.out (by assumption))) | exact HB.out | exact Below.refl _ _))⟩ | exact ⟨GW.drewN HG.out _⟩ | exact ⟨GW.drew HG.out⟩ | exact ⟨GW.drewN (GW.drewN HG.out _) _⟩ | exact ⟨GW.drewN (GW.drew HG.out) _⟩) :
    Calls Tryz.prog 43 #[.string a0, .string a1] w fun e w' => e = .returned (.bool r) ∧ Drawn0 w w' := by
  have H : (abacuslaw21_holds.l0 k a0 a1 0) = some r := h
  clear h
  have H' := Aside0.mk H
  clear H
  go_enter Tryz.func43, Tryz.ntmps43
  go_wp2
  go_loopg [5] k (fun kq v5 w' => ∃ (x5_1 : Int), v5 = .int .i64 x5_1 ∧ Aside0 (abacuslaw21_holds.l0 kq a0 a1 x5_1 = some r) ∧ Aside0 (kq ≤ k) ∧ Drawn0 w w')
  case atStart => exact ⟨(0), (by first | rfl | (simp; done) | (simp [*]; done)), H', ⟨Nat.le_refl _⟩, by repeat (first | exact Drawn0.refl _ | apply Drawn0.step)⟩
  case round =>
    clear H'
    try clear p2
    obtain ⟨x5_1, rfl, HA, HK1, ⟨m1, rfl⟩⟩ := hrel
    cases gk with
    | zero => exact absurd HA.out (by simp [abacuslaw21_holds.l0])
    | succ k1 =>
      have H := HA.out
      clear HA
      simp only [abacuslaw21_holds.l0] at H
      by_cases c3 : (wrap64 (x5_1 + (a1.size : Int))) ≤ (a0.size : Int)
      · rw [if_pos c3] at H
        have c3b0 : decide ((wrap64 (x5_1 + (a1.size : Int))) ≤ (a0.size : Int)) = true := decide_eq_true c3
        clear c3
        by_cases c4 : 0 ≤ x5_1
        · rw [if_pos c4] at H
          have c4b0 := eq_true c4
          have c4b1 : decide (0 ≤ x5_1) = true := decide_eq_true c4
          clear c4
          by_cases c5 : x5_1 ≤ (wrap64 (x5_1 + (a1.size : Int)))
          · rw [if_pos c5] at H
            have c5b0 := eq_true c5
            have c5b1 : decide (x5_1 ≤ (wrap64 (x5_1 + (a1.size : Int)))) = true := decide_eq_true c5
            have c6b0 := eq_true (of_decide_eq_true (by first | (with_reducible assumption) | assumption) : (wrap64 (x5_1 + (a1.size : Int))) ≤ (a0.size : Int))
            by_cases c7 : (a0.extract (x5_1 : Int).toNat ((wrap64 (x5_1 + (a1.size : Int))) : Int).toNat).toList = a1.toList
            · rw [if_pos c7] at H
              have c7b0 : ((a0.extract (x5_1 : Int).toNat ((wrap64 (x5_1 + (a1.size : Int))) : Int).toNat).toList == a1.toList) = true := beq_iff_eq.mpr c7
              have c7b1 : ((a0.extract (x5_1 : Int).toNat ((wrap64 (x5_1 + (a1.size : Int))) : Int).toNat).toList != a1.toList) = false := bne_eq_false_iff_eq.mpr c7
              clear c7
              obtain rfl := Option.some.inj H
              go_wp2
              go_ret
              exact ⟨by first | rfl | (simp; done) | (simp [*]; done), by repeat (first | exact Drawn0.refl _ | apply Drawn0.step)⟩
            · rw [if_neg c7] at H
              have c7b0 : ((a0.extract (x5_1 : Int).toNat ((wrap64 (x5_1 + (a1.size : Int))) : Int).toNat).toList == a1.toList) = false := beq_eq_false_iff_ne.mpr c7
              have c7b1 : ((a0.extract (x5_1 : Int).toNat ((wrap64 (x5_1 + (a1.size : Int))) : Int).toNat).toList != a1.toList) = true := bne_iff_ne.mpr c7
              have H' := Aside0.mk H
              clear H
              go_wp2
              go_roundg k1
              case measure => have := HK1.out; omega
              case rel => exact ⟨(wrap64 (x5_1 + 1)), (by first | rfl | (simp; done) | (simp [*]; done)), H', ⟨by have := HK1.out; omega⟩, by repeat (first | exact Drawn0.refl _ | apply Drawn0.step)⟩
          · rw [if_neg c5] at H
            exact absurd H (by simp)
        · rw [if_neg c4] at H
          exact absurd H (by simp)
      · rw [if_neg c3] at H
        have c3b0 : decide ((wrap64 (x5_1 + (a1.size : Int))) ≤ (a0.size : Int)) = false := decide_eq_false c3
        clear c3
        obtain rfl := Option.some.inj H
        go_wp2
        go_ret
        exact ⟨by first | rfl | (simp; done) | (simp [*]; done), by repeat (first | exact Drawn0.refl _ | apply Drawn0.step)⟩

/-! ### abacuslaw21_joined: function 44 -/
def abacuslaw21_joined.l0 : Nat → List ByteArray → ByteArray → List Int → Int → Option (ByteArray)
  | 0, _, _, _, _ => none
  | k + 1, x0, x1, x5, x6 => if x6 < (x0.length : Int) then (if x6 > 0 then (if x5.length + x1.size < 140737488355328 then ((some (x5 ++ bytesOf x1 : List Int)).bind fun y104 => (if 0 ≤ x6 then (if y104.length + (rdOf ByteArray.empty x0 x6).size < 140737488355328 then (abacuslaw21_joined.l0 k x0 x1 (y104 ++ bytesOf (rdOf ByteArray.empty x0 x6)) (wrap64 (x6 + 1))) else (none)) else (none))) else (none)) else (if 0 ≤ x6 then (if x5.length + (rdOf ByteArray.empty x0 x6).size < 140737488355328 then (abacuslaw21_joined.l0 k x0 x1 (x5 ++ bytesOf (rdOf ByteArray.empty x0 x6)) (wrap64 (x6 + 1))) else (none)) else (none))) else (some (strOfNums x5))
def abacuslaw21_joined.f (k : Nat) (l0 : List ByteArray) (a1 : ByteArray) : Option (ByteArray) := abacuslaw21_joined.l0 k l0 a1 (([] : List Int)) 0
theorem abacuslaw21_joined.mono_l : ∀ k, (∀ y0 y1 y2 y3, LeO (abacuslaw21_joined.l0 k y0 y1 y2 y3) (abacuslaw21_joined.l0 (k + 1) y0 y1 y2 y3))
  | 0 => fun _ _ _ _ r h => by simp [abacuslaw21_joined.l0] at h
  | k + 1 => by
    have ih0 := abacuslaw21_joined.mono_l k
    · intro y0 y1 y2 y3
      unfold abacuslaw21_joined.l0
      repeat' first
      | (with_reducible exact ih0 _ _ _ _)
      | (with_reducible exact LeO.refl _)
      | (with_reducible exact LeO.none _)
      | (with_reducible refine LeO.ite ?_ ?_)
      | (with_reducible refine LeO.bind ?_ (fun _ => ?_))
      | exact ih0 _ _ _ _
      | exact LeO.none _
      | refine LeO.ite ?_ ?_
      | refine LeO.bind ?_ (fun _ => ?_)
theorem abacuslaw21_joined.mono : ∀ a0 a1 k, LeO (abacuslaw21_joined.f k a0 a1) (abacuslaw21_joined.f (k + 1) a0 a1) := by
  intro a0 a1 k
  have ih0 := abacuslaw21_joined.mono_l k
  unfold abacuslaw21_joined.f
  repeat' first
      | (with_reducible exact ih0 _ _ _ _)
      | (with_reducible exact LeO.refl _)
      | (with_reducible exact LeO.none _)
      | (with_reducible refine LeO.ite ?_ ?_)
      | (with_reducible refine LeO.bind ?_ (fun _ => ?_))
      | exact ih0 _ _ _ _
      | exact LeO.none _
      | refine LeO.ite ?_ ?_
      | refine LeO.bind ?_ (fun _ => ?_)
set_option maxHeartbeats 8000000 in
set_option maxRecDepth 100000 in
theorem abacuslaw21_joined.calls (k : Nat) (A0 : Option Addr) (c0 : Nat) (l0 : List ByteArray) (a1 : ByteArray) (r : ByteArray) (w : World) (hr0 : Kd.C Kd.string w A0 l0.length l0) (hc0 : l0.length ≤ c0) (h : abacuslaw21_joined.f k l0 a1 = some r) (HG : Aside0 (GW w) := by first | (with_reducible exact HG) | exact ⟨GW.below HG.out (by repeat (first | (with_reducible first | exact HB.out | apply below_alloc | apply pw_below_drewN | apply below_drew1) | (with_reducible refine below_set ?_ (Aside0.out (by assumption))) | exact HB.out | exact Below.refl _ _))⟩ | exact ⟨GW.drewN HG.out _⟩ | exact ⟨GW.drew HG.out⟩ | exact ⟨GW.drewN (GW.drewN HG.out _) _⟩ | exact ⟨GW.drewN (GW.drew HG.out) _⟩) :
    Calls Tryz.prog 44 #[.slice A0 l0.length c0, .string a1] w fun e w' => e = .returned (.string r) ∧ Below w.heap.size w w' := by
  have HR0 := Aside0.mk hr0
  have HC0 := Aside0.mk hc0
  clear hr0 hc0
  have HB := Aside0.mk (Below.refl w.heap.size w)
  have H : (abacuslaw21_joined.l0 k l0 a1 (([] : List Int)) 0) = some r := h
  clear h
  obtain ⟨y101, hy101⟩ : ∃ y_ : List Int, y_ = (([] : List Int)) := ⟨_, rfl⟩
  replace H : (abacuslaw21_joined.l0 k l0 a1 y101 0) = some r := by first | (rw [hy101]; with_reducible exact H) | (have H2_ := (Option.bind_some _ _).symm.trans H; rw [hy101]; with_reducible exact H2_) | (have H2_ := (Option.bind_some _ _).symm.trans H; with_reducible exact H2_) | with_reducible exact H | (rw [hy101]; exact H) | exact H
  have Ny101 := Aside0.mk hy101
  clear hy101
  have H' := Aside0.mk H
  clear H
  go_enter Tryz.func44, Tryz.ntmps44
  go_wp2_with (first | ((with_reducible refine gate_dst (N := 7) rfl ?_); refine Kd.R_lit (Kd.int .u8) _ 5 ?hg (N := 7) ?hd (xs := ([] : List Int)) (inner := []) (ok := fun _ => True) (okp := fun _ => True) ?hr ?hp (fun _ hk => hk) trivial (Below.refl _ _) (Nat.le_refl _) (by simp) ?_; (case hd => rfl); (case hg => rfl); (case hr => first | (go_simp; done) | (go_simp; rfl)); (case hp => exact (Reps.none _ _)); intro v102 w3 ho4 hb hg_ hnew_; clear hg_ hnew_; (first | rw [← Ny101.out] at ho4 | (simp only [Int.reduceToNat] at ho4; rw [← Ny101.out] at ho4)); have n0_ := Aside0.mk (Kd.R_lower ho4 (below_size (by repeat (first | (with_reducible first | exact HB.out | apply below_alloc | apply pw_below_drewN | apply below_drew1) | exact HB.out)))); have n1_ := Aside0.mk (below_step (by repeat (first | (with_reducible first | exact HB.out | apply below_alloc | apply pw_below_drewN | apply below_drew1) | exact HB.out)) hb); clear HB; have HO103 := n0_; have HB := n1_; clear n0_ n1_; clear hb ho4))
  go_loopg [5, 6] k (fun kq v5 v6 w' => ∃ (x5_1 : List Int) (x6_1 : Int), v6 = .int .i64 x6_1 ∧ Aside0 (abacuslaw21_joined.l0 kq l0 a1 x5_1 x6_1 = some r) ∧ Aside0 (kq ≤ k) ∧ Aside0 (Kd.R (Kd.int .u8) 5 w' w.heap.size (fun _ => True) v5 x5_1) ∧ Aside0 (Below w.heap.size w w'))
  case atStart => exact ⟨(y101), (0), (by first | rfl | (simp; done) | (simp [*]; done)), H', ⟨Nat.le_refl _⟩, ⟨by (with_reducible repeat (first | apply Kd.R_alloc | apply Kd.R_drewN | apply Kd.R_drew)); exact HO103.out⟩, ⟨by repeat (first | (with_reducible first | exact HB.out | apply below_alloc | apply pw_below_drewN | apply below_drew1) | exact HB.out)⟩⟩
  case round =>
    clear H'
    try clear p2
    try clear c4
    obtain ⟨x5_1, x6_1, rfl, HA, HK1, HO_5, HB⟩ := hrel
    cases gk with
    | zero => exact absurd HA.out (by simp [abacuslaw21_joined.l0])
    | succ k1 =>
      have H := HA.out
      clear HA
      simp only [abacuslaw21_joined.l0] at H
      by_cases c5 : x6_1 < (l0.length : Int)
      · rw [if_pos c5] at H
        have c5b0 : decide (x6_1 < (l0.length : Int)) = true := decide_eq_true c5
        clear c5
        by_cases c6 : x6_1 > 0
        · rw [if_pos c6] at H
          have c6b0 : decide (0 < x6_1) = true := decide_eq_true c6
          clear c6
          by_cases c7 : x5_1.length + a1.size < 140737488355328
          · rw [if_pos c7] at H
            have LMc7 := Aside0.mk c7
            clear c7
            obtain ⟨y104, hy104⟩ : ∃ y_ : List Int, y_ = (x5_1 ++ bytesOf a1) := ⟨_, rfl⟩
            replace H : (if 0 ≤ x6_1 then (if y104.length + (rdOf ByteArray.empty l0 x6_1).size < 140737488355328 then (abacuslaw21_joined.l0 k1 l0 a1 (y104 ++ bytesOf (rdOf ByteArray.empty l0 x6_1)) (wrap64 (x6_1 + 1))) else (none)) else (none)) = some r := by first | (rw [hy104]; with_reducible exact H) | (have H2_ := (Option.bind_some _ _).symm.trans H; rw [hy104]; with_reducible exact H2_) | (have H2_ := (Option.bind_some _ _).symm.trans H; with_reducible exact H2_) | with_reducible exact H | (rw [hy104]; exact H) | exact H
            have Ny104 := Aside0.mk hy104
            clear hy104
            by_cases c8 : 0 ≤ x6_1
            · rw [if_pos c8] at H
              have c8b0 : decide (0 ≤ x6_1) = true := decide_eq_true c8
              clear c8
              by_cases c9 : y104.length + (rdOf ByteArray.empty l0 x6_1).size < 140737488355328
              · rw [if_pos c9] at H
                have LMc9 := Aside0.mk c9
                clear c9
                obtain ⟨y108, hy108⟩ : ∃ y_ : List Int, y_ = (y104 ++ bytesOf (rdOf ByteArray.empty l0 x6_1)) := ⟨_, rfl⟩
                replace H : (abacuslaw21_joined.l0 k1 l0 a1 y108 (wrap64 (x6_1 + 1))) = some r := by first | (rw [hy108]; with_reducible exact H) | (have H2_ := (Option.bind_some _ _).symm.trans H; rw [hy108]; with_reducible exact H2_) | (have H2_ := (Option.bind_some _ _).symm.trans H; with_reducible exact H2_) | with_reducible exact H | (rw [hy108]; exact H) | exact H
                have Ny108 := Aside0.mk hy108
                clear hy108
                have H' := Aside0.mk H
                clear H
                go_wp2_with (first | (at_builtin; refine print_append_str (w0 := w) w.heap.size rfl (.tmp 16) _ 119 9 5 rfl Tryz.underlying119 Tryz.underlying9 info5 u5 x5_1 a1 rfl rfl ?aO ?aB ?aS ?aL ?_; (case aB => exact (by repeat (first | (with_reducible first | exact HB.out | apply below_alloc | apply pw_below_drewN | apply below_drew1) | exact HB.out))); (case aO => exact (Kd.own_of_R (by (with_reducible repeat (first | apply Kd.R_alloc | apply Kd.R_drewN | apply Kd.R_drew)); exact HO_5.out))); (case aS => exact (below_size (by repeat (first | (with_reducible first | exact HB.out | apply below_alloc | apply pw_below_drewN | apply below_drew1) | exact HB.out)))); (case aL => have := LMc7.out; omega); intro v105 w10 ho0 hb hg; have ho := Kd.R_of_own (h1 := fun _ => rfl) (ok := fun _ => True) ho0 (fun _ _ => trivial); clear ho0; have hat := True.intro; rw [← Ny104.out] at ho; change Kd.R (Kd.int .u8) 5 w10 w.heap.size (fun _ => True) v105 y104 at ho; have n0_ := Aside0.mk (hb); have n1_ := Aside0.mk (ho); clear HB; clear HO_5; have HB := n0_; have HO106 := n1_; clear n0_ n1_; clear ho hb hg hat; have p107 : 0 ≤ (x6_1 : Int) := of_decide_eq_true (by first | (with_reducible assumption) | assumption); have q107 : x6_1 < (l0.length : Int) := of_decide_eq_true (by first | (with_reducible assumption) | assumption); obtain ⟨ad107, e107, hx107_0⟩ := Kd.at_string HR0.out x6_1 p107 q107; cases e107; replace hx107_0 := (HB.out.cell (World.block_lt_of_cell? w _ hx107_0)).trans hx107_0; replace p107 := eq_true p107; replace q107 := eq_true q107) | (at_builtin; refine print_append_str (w0 := w) w.heap.size rfl (.tmp 19) _ 119 9 5 rfl Tryz.underlying119 Tryz.underlying9 info5 v105 y104 (rdOf ByteArray.empty l0 x6_1) rfl rfl ?aO ?aB ?aS ?aL ?_; (case aB => exact (by repeat (first | (with_reducible first | exact HB.out | apply below_alloc | apply pw_below_drewN | apply below_drew1) | exact HB.out))); (case aO => exact (Kd.own_of_R (by (with_reducible repeat (first | apply Kd.R_alloc | apply Kd.R_drewN | apply Kd.R_drew)); exact HO106.out))); (case aS => exact (below_size (by repeat (first | (with_reducible first | exact HB.out | apply below_alloc | apply pw_below_drewN | apply below_drew1) | exact HB.out)))); (case aL => have := LMc9.out; omega); intro v109 w11 ho0 hb hg; have ho := Kd.R_of_own (h1 := fun _ => rfl) (ok := fun _ => True) ho0 (fun _ _ => trivial); clear ho0; have hat := True.intro; rw [← Ny108.out] at ho; change Kd.R (Kd.int .u8) 5 w11 w.heap.size (fun _ => True) v109 y108 at ho; have n0_ := Aside0.mk (hb); have n1_ := Aside0.mk (ho); clear HB; clear HO106; have HB := n0_; have HO110 := n1_; clear n0_ n1_; clear ho hb hg hat))
                go_roundg k1
                case measure => have := HK1.out; omega
                case rel => exact ⟨(y108), (wrap64 (x6_1 + 1)), (by first | rfl | (simp; done) | (simp [*]; done)), H', ⟨by have := HK1.out; omega⟩, ⟨by (with_reducible repeat (first | apply Kd.R_alloc | apply Kd.R_drewN | apply Kd.R_drew)); exact HO110.out⟩, ⟨by repeat (first | (with_reducible first | exact HB.out | apply below_alloc | apply pw_below_drewN | apply below_drew1) | exact HB.out)⟩⟩
              · rw [if_neg c9] at H
                exact absurd H (by simp)
            · rw [if_neg c8] at H
              exact absurd H (by simp)
          · rw [if_neg c7] at H
            exact absurd H (by simp)
        · rw [if_neg c6] at H
          have c6b0 : decide (0 < x6_1) = false := decide_eq_false c6
          clear c6
          by_cases c12 : 0 ≤ x6_1
          · rw [if_pos c12] at H
            have c12b0 : decide (0 ≤ x6_1) = true := decide_eq_true c12
            clear c12
            by_cases c13 : x5_1.length + (rdOf ByteArray.empty l0 x6_1).size < 140737488355328
            · rw [if_pos c13] at H
              have LMc13 := Aside0.mk c13
              clear c13
              obtain ⟨y112, hy112⟩ : ∃ y_ : List Int, y_ = (x5_1 ++ bytesOf (rdOf ByteArray.empty l0 x6_1)) := ⟨_, rfl⟩
              replace H : (abacuslaw21_joined.l0 k1 l0 a1 y112 (wrap64 (x6_1 + 1))) = some r := by first | (rw [hy112]; with_reducible exact H) | (have H2_ := (Option.bind_some _ _).symm.trans H; rw [hy112]; with_reducible exact H2_) | (have H2_ := (Option.bind_some _ _).symm.trans H; with_reducible exact H2_) | with_reducible exact H | (rw [hy112]; exact H) | exact H
              have Ny112 := Aside0.mk hy112
              clear hy112
              have H' := Aside0.mk H
              clear H
              have p111 : 0 ≤ (x6_1 : Int) := of_decide_eq_true (by first | (with_reducible assumption) | assumption)
              have q111 : x6_1 < (l0.length : Int) := of_decide_eq_true (by first | (with_reducible assumption) | assumption)
              obtain ⟨ad111, e111, hx111_0⟩ := Kd.at_string HR0.out x6_1 p111 q111
              cases e111
              replace hx111_0 := (HB.out.cell (World.block_lt_of_cell? w _ hx111_0)).trans hx111_0
              replace p111 := eq_true p111
              replace q111 := eq_true q111
              go_wp2_with (first | (at_builtin; refine print_append_str (w0 := w) w.heap.size rfl (.tmp 19) _ 119 9 5 rfl Tryz.underlying119 Tryz.underlying9 info5 u5 x5_1 (rdOf ByteArray.empty l0 x6_1) rfl rfl ?aO ?aB ?aS ?aL ?_; (case aB => exact (by repeat (first | (with_reducible first | exact HB.out | apply below_alloc | apply pw_below_drewN | apply below_drew1) | exact HB.out))); (case aO => exact (Kd.own_of_R (by (with_reducible repeat (first | apply Kd.R_alloc | apply Kd.R_drewN | apply Kd.R_drew)); exact HO_5.out))); (case aS => exact (below_size (by repeat (first | (with_reducible first | exact HB.out | apply below_alloc | apply pw_below_drewN | apply below_drew1) | exact HB.out)))); (case aL => have := LMc13.out; omega); intro v113 w14 ho0 hb hg; have ho := Kd.R_of_own (h1 := fun _ => rfl) (ok := fun _ => True) ho0 (fun _ _ => trivial); clear ho0; have hat := True.intro; rw [← Ny112.out] at ho; change Kd.R (Kd.int .u8) 5 w14 w.heap.size (fun _ => True) v113 y112 at ho; have n0_ := Aside0.mk (hb); have n1_ := Aside0.mk (ho); clear HB; clear HO_5; have HB := n0_; have HO114 := n1_; clear n0_ n1_; clear ho hb hg hat))
              go_roundg k1
              case measure => have := HK1.out; omega
              case rel => exact ⟨(y112), (wrap64 (x6_1 + 1)), (by first | rfl | (simp; done) | (simp [*]; done)), H', ⟨by have := HK1.out; omega⟩, ⟨by (with_reducible repeat (first | apply Kd.R_alloc | apply Kd.R_drewN | apply Kd.R_drew)); exact HO114.out⟩, ⟨by repeat (first | (with_reducible first | exact HB.out | apply below_alloc | apply pw_below_drewN | apply below_drew1) | exact HB.out)⟩⟩
            · rw [if_neg c13] at H
              exact absurd H (by simp)
          · rw [if_neg c12] at H
            exact absurd H (by simp)
      · rw [if_neg c5] at H
        have c5b0 : decide (x6_1 < (l0.length : Int)) = false := decide_eq_false c5
        clear c5
        obtain rfl := Option.some.inj H
        have hcv15 := own_string (P := Tryz.prog) Tryz.underlying119 Tryz.underlying5 Tryz.underlying9 (Kd.own_of_R HO_5.out)
        have hcv15q := fun n_ => own_string (P := Tryz.prog) Tryz.underlying119 Tryz.underlying5 Tryz.underlying9 (Kd.own_of_R (Kd.R_drewN HO_5.out n_))
        go_wp2
        go_ret
        exact ⟨by first | rfl | (simp [errW_none, errW_some] <;> rfl) | (simp only [append_nothing]; done) | (simp only [append_nothing]; rfl) | (simp [*, errW_none, errW_some] <;> rfl), by repeat (first | (with_reducible first | exact HB.out | apply below_alloc | apply pw_below_drewN | apply below_drew1) | exact HB.out)⟩

/-! ### abacuslaw21_RecordRejoins: function 7 -/
def abacuslaw21_RecordRejoins.l0 : Nat → ByteArray → ByteArray → List ByteArray → Int → Option (Bool)
  | 0, _, _, _, _ => none
  | k + 1, x0, x1, x6, x7 => if x7 < (x6.length : Int) then (if 0 ≤ x7 then ((abacuslaw21_holds.f k (rdOf ByteArray.empty x6 x7) x1).bind fun t120 => (if t120 = true then (some false) else (abacuslaw21_RecordRejoins.l0 k x0 x1 x6 (wrap64 (x7 + 1))))) else (none)) else ((abacuslaw21_joined.f k x6 x1).bind fun t121 => (if t121.size + x1.size ≤ 9223372036854775807 then (if (t121 ++ x1).toList = x0.toList then (some true) else (if x0.size + x1.size ≤ 9223372036854775807 then (if (t121 ++ x1).toList = (x0 ++ x1).toList then (if 0 ≤ (wrap64 ((x6.length : Int) - 1)) then (if (wrap64 ((x6.length : Int) - 1)) < (x6.length : Int) then (some ((rdOf ByteArray.empty x6 (wrap64 ((x6.length : Int) - 1))).toList != ([] : List UInt8))) else (none)) else (none)) else (some false)) else (none))) else (none)))
def abacuslaw21_RecordRejoins.f (k : Nat) (a0 : ByteArray) (a1 : ByteArray) : Option (Bool) := (abacuslaw21_awake.f).bind fun t115 => (if t115 = true then (if a1.toList = ([] : List UInt8) then (some true) else ((record_Lines.f a0 a1).bind fun t116 => (if (t116.length : Int) = 0 then (some (a0.toList == ([] : List UInt8))) else (abacuslaw21_RecordRejoins.l0 k a0 a1 t116 0)))) else (some false))
theorem abacuslaw21_RecordRejoins.mono_l : ∀ k, (∀ y0 y1 y2 y3, LeO (abacuslaw21_RecordRejoins.l0 k y0 y1 y2 y3) (abacuslaw21_RecordRejoins.l0 (k + 1) y0 y1 y2 y3))
  | 0 => fun _ _ _ _ r h => by simp [abacuslaw21_RecordRejoins.l0] at h
  | k + 1 => by
    have ih0 := abacuslaw21_RecordRejoins.mono_l k
    · intro y0 y1 y2 y3
      unfold abacuslaw21_RecordRejoins.l0
      repeat' first
      | (with_reducible exact ih0 _ _ _ _)
      | (with_reducible exact abacuslaw21_holds.mono _ _ _)
      | (with_reducible exact abacuslaw21_joined.mono _ _ _)
      | (with_reducible exact LeO.refl _)
      | (with_reducible exact LeO.none _)
      | (with_reducible refine LeO.ite ?_ ?_)
      | (with_reducible refine LeO.bind ?_ (fun _ => ?_))
      | exact ih0 _ _ _ _
      | exact abacuslaw21_holds.mono _ _ _
      | exact abacuslaw21_joined.mono _ _ _
      | exact LeO.none _
      | refine LeO.ite ?_ ?_
      | refine LeO.bind ?_ (fun _ => ?_)
theorem abacuslaw21_RecordRejoins.mono : ∀ a0 a1 k, LeO (abacuslaw21_RecordRejoins.f k a0 a1) (abacuslaw21_RecordRejoins.f (k + 1) a0 a1) := by
  intro a0 a1 k
  have ih0 := abacuslaw21_RecordRejoins.mono_l k
  unfold abacuslaw21_RecordRejoins.f
  repeat' first
      | (with_reducible exact ih0 _ _ _ _)
      | (with_reducible exact abacuslaw21_holds.mono _ _ _)
      | (with_reducible exact abacuslaw21_joined.mono _ _ _)
      | (with_reducible exact LeO.refl _)
      | (with_reducible exact LeO.none _)
      | (with_reducible refine LeO.ite ?_ ?_)
      | (with_reducible refine LeO.bind ?_ (fun _ => ?_))
      | exact ih0 _ _ _ _
      | exact abacuslaw21_holds.mono _ _ _
      | exact abacuslaw21_joined.mono _ _ _
      | exact LeO.none _
      | refine LeO.ite ?_ ?_
      | refine LeO.bind ?_ (fun _ => ?_)
set_option maxHeartbeats 8000000 in
set_option maxRecDepth 100000 in
theorem abacuslaw21_RecordRejoins.calls (k : Nat) (a0 : ByteArray) (a1 : ByteArray) (r : Bool) (w : World) (h : abacuslaw21_RecordRejoins.f k a0 a1 = some r) (HG : Aside0 (GW w) := by first | (with_reducible exact HG) | exact ⟨GW.below HG.out (by repeat (first | (with_reducible first | exact HB.out | apply below_alloc | apply pw_below_drewN | apply below_drew1) | (with_reducible refine below_set ?_ (Aside0.out (by assumption))) | exact HB.out | exact Below.refl _ _))⟩ | exact ⟨GW.drewN HG.out _⟩ | exact ⟨GW.drew HG.out⟩ | exact ⟨GW.drewN (GW.drewN HG.out _) _⟩ | exact ⟨GW.drewN (GW.drew HG.out) _⟩) :
    Calls Tryz.prog 7 #[.string a0, .string a1] w fun e w' => e = .returned (.bool r) ∧ Below w.heap.size w w' := by
  have HB := Aside0.mk (Below.refl w.heap.size w)
  have H : ((abacuslaw21_awake.f).bind fun t115 => (if t115 = true then (if a1.toList = ([] : List UInt8) then (some true) else ((record_Lines.f a0 a1).bind fun t116 => (if (t116.length : Int) = 0 then (some (a0.toList == ([] : List UInt8))) else (abacuslaw21_RecordRejoins.l0 k a0 a1 t116 0)))) else (some false))) = some r := h
  clear h
  replace H := Option.bind_eq_some_iff.mp H
  obtain ⟨t115, A30, H⟩ := H
  replace H : (if t115 = true then (if a1.toList = ([] : List UInt8) then (some true) else ((record_Lines.f a0 a1).bind fun t116 => (if (t116.length : Int) = 0 then (some (a0.toList == ([] : List UInt8))) else (abacuslaw21_RecordRejoins.l0 k a0 a1 t116 0)))) else (some false)) = some r := H
  have A3 := Aside0.mk A30
  clear A30
  by_cases c4 : t115 = true
  · subst c4
    have H1 : (if a1.toList = ([] : List UInt8) then (some true) else ((record_Lines.f a0 a1).bind fun t116 => (if (t116.length : Int) = 0 then (some (a0.toList == ([] : List UInt8))) else (abacuslaw21_RecordRejoins.l0 k a0 a1 t116 0)))) = some r := by rw [if_pos rfl] at H; exact H
    clear H
    have H := H1
    clear H1
    by_cases c5 : a1.toList = ([] : List UInt8)
    · rw [if_pos c5] at H
      have c5b0 : (a1.toList == ([] : List UInt8)) = true := beq_iff_eq.mpr c5
      have c5b1 : (a1.toList != ([] : List UInt8)) = false := bne_eq_false_iff_eq.mpr c5
      clear c5
      obtain rfl := Option.some.inj H
      go_enter Tryz.func7, Tryz.ntmps7
      go_wp2_with (first | ((with_reducible refine gate_callee (f := 30) rfl ?_); refine goesL_ (some 9) rfl rfl Tryz.func30 (by kernel_rfl) rfl #[] rfl (by (try simp only [List.map_toArray, List.map_cons, List.map_nil]); first | done | rfl | (simp only [List.length_drop, List.length_take]; rfl)) ?_; (with_reducible refine (abacuslaw21_awake.calls  true _ A3.out).mono ?_); rintro e w6 ⟨rfl, hb⟩; refine ⟨_, rfl, ?_⟩; have n0_ := Aside0.mk (below_step (by repeat (first | (with_reducible first | exact HB.out | apply below_alloc | apply pw_below_drewN | apply below_drew1) | exact HB.out)) hb); clear HB; have HB := n0_; clear n0_; (try clear hb); (try clear hb2); (try clear hk); (try clear hi)))
      go_ret
      exact ⟨by first | rfl | (simp [errW_none, errW_some] <;> rfl) | (simp only [append_nothing]; done) | (simp only [append_nothing]; rfl) | (simp [*, errW_none, errW_some] <;> rfl) | (simp [*, errW_none, errW_some] <;> (cases (rdOf ByteArray.empty t116 ji25).toList <;> rfl)), by repeat (first | (with_reducible first | exact HB.out | apply below_alloc | apply pw_below_drewN | apply below_drew1) | exact HB.out)⟩
    · rw [if_neg c5] at H
      have c5b0 : (a1.toList == ([] : List UInt8)) = false := beq_eq_false_iff_ne.mpr c5
      have c5b1 : (a1.toList != ([] : List UInt8)) = true := bne_iff_ne.mpr c5
      replace H := Option.bind_eq_some_iff.mp H
      obtain ⟨t116, A70, H⟩ := H
      replace H : (if (t116.length : Int) = 0 then (some (a0.toList == ([] : List UInt8))) else (abacuslaw21_RecordRejoins.l0 k a0 a1 t116 0)) = some r := H
      have A7 := Aside0.mk A70
      clear A70
      by_cases c8 : (t116.length : Int) = 0
      · rw [if_pos c8] at H
        have c8b0 : ((t116.length : Int) == 0) = true := beq_iff_eq.mpr c8
        have c8b1 : ((t116.length : Int) != 0) = false := bne_eq_false_iff_eq.mpr c8
        clear c8
        obtain rfl := Option.some.inj H
        go_enter Tryz.func7, Tryz.ntmps7
        go_wp2_with (first | ((with_reducible refine gate_callee (f := 30) rfl ?_); refine goesL_ (some 9) rfl rfl Tryz.func30 (by kernel_rfl) rfl #[] rfl (by (try simp only [List.map_toArray, List.map_cons, List.map_nil]); first | done | rfl | (simp only [List.length_drop, List.length_take]; rfl)) ?_; (with_reducible refine (abacuslaw21_awake.calls  true _ A3.out).mono ?_); rintro e w9 ⟨rfl, hb⟩; refine ⟨_, rfl, ?_⟩; have n0_ := Aside0.mk (below_step (by repeat (first | (with_reducible first | exact HB.out | apply below_alloc | apply pw_below_drewN | apply below_drew1) | exact HB.out)) hb); clear HB; have HB := n0_; clear n0_; (try clear hb); (try clear hb2); (try clear hk); (try clear hi)) | ((with_reducible refine gate_callee (f := 39) rfl ?_); refine goesL_ (some 16) rfl rfl Tryz.func39 (by kernel_rfl) rfl #[.string a0, .string a1] rfl (by (try simp only [List.map_toArray, List.map_cons, List.map_nil]); first | done | rfl | (simp only [List.length_drop, List.length_take]; rfl)) ?_; (with_reducible refine (record_Lines.calls a0 a1 t116 _ A7.out).mono ?_); rintro e w10 ⟨v117, rfl, ho0, hb⟩; refine ⟨_, rfl, ?_⟩; have n0_ := Aside0.mk (Kd.R_lower ho0 (below_size (by repeat (first | (with_reducible first | exact HB.out | apply below_alloc | apply pw_below_drewN | apply below_drew1) | exact HB.out)))); have n1_ := Aside0.mk (below_step (by repeat (first | (with_reducible first | exact HB.out | apply below_alloc | apply pw_below_drewN | apply below_drew1) | exact HB.out)) hb); clear HB; have HO118 := n0_; have HB := n1_; clear n0_ n1_; (try clear hb); (try clear hb2); (try clear hk); (try clear hi); (try clear ho0); obtain ⟨Ao11, co11, eo11⟩ := Kd.R_slice HO118.out; subst eo11))
        go_ret
        exact ⟨by first | rfl | (simp [errW_none, errW_some] <;> rfl) | (simp only [append_nothing]; done) | (simp only [append_nothing]; rfl) | (simp [*, errW_none, errW_some] <;> rfl) | (simp [*, errW_none, errW_some] <;> (cases (rdOf ByteArray.empty t116 ji25).toList <;> rfl)), by repeat (first | (with_reducible first | exact HB.out | apply below_alloc | apply pw_below_drewN | apply below_drew1) | exact HB.out)⟩
      · rw [if_neg c8] at H
        have c8b0 : ((t116.length : Int) == 0) = false := beq_eq_false_iff_ne.mpr c8
        have c8b1 : ((t116.length : Int) != 0) = true := bne_iff_ne.mpr c8
        have c8b2 : ¬ (t116 = []) := fun h_ => c8 (by rw [h_]; rfl)
        have H' := Aside0.mk H
        clear H
        go_enter Tryz.func7, Tryz.ntmps7
        go_wp2_with (first | ((with_reducible refine gate_callee (f := 30) rfl ?_); refine goesL_ (some 9) rfl rfl Tryz.func30 (by kernel_rfl) rfl #[] rfl (by (try simp only [List.map_toArray, List.map_cons, List.map_nil]); first | done | rfl | (simp only [List.length_drop, List.length_take]; rfl)) ?_; (with_reducible refine (abacuslaw21_awake.calls  true _ A3.out).mono ?_); rintro e w12 ⟨rfl, hb⟩; refine ⟨_, rfl, ?_⟩; have n0_ := Aside0.mk (below_step (by repeat (first | (with_reducible first | exact HB.out | apply below_alloc | apply pw_below_drewN | apply below_drew1) | exact HB.out)) hb); clear HB; have HB := n0_; clear n0_; (try clear hb); (try clear hb2); (try clear hk); (try clear hi)) | ((with_reducible refine gate_callee (f := 39) rfl ?_); refine goesL_ (some 16) rfl rfl Tryz.func39 (by kernel_rfl) rfl #[.string a0, .string a1] rfl (by (try simp only [List.map_toArray, List.map_cons, List.map_nil]); first | done | rfl | (simp only [List.length_drop, List.length_take]; rfl)) ?_; (with_reducible refine (record_Lines.calls a0 a1 t116 _ A7.out).mono ?_); rintro e w13 ⟨v117, rfl, ho0, hb⟩; refine ⟨_, rfl, ?_⟩; have n0_ := Aside0.mk (Kd.R_lower ho0 (below_size (by repeat (first | (with_reducible first | exact HB.out | apply below_alloc | apply pw_below_drewN | apply below_drew1) | exact HB.out)))); have n1_ := Aside0.mk (below_step (by repeat (first | (with_reducible first | exact HB.out | apply below_alloc | apply pw_below_drewN | apply below_drew1) | exact HB.out)) hb); clear HB; have HO118 := n0_; have HB := n1_; clear n0_ n1_; (try clear hb); (try clear hb2); (try clear hk); (try clear hi); (try clear ho0); obtain ⟨Ao14, co14, eo14⟩ := Kd.R_slice HO118.out; subst eo14))
        go_loopg [7] k (fun kq v7 w' => ∃ (x7_1 : Int), v7 = .int .i64 x7_1 ∧ Aside0 (abacuslaw21_RecordRejoins.l0 kq a0 a1 t116 x7_1 = some r) ∧ Aside0 (kq ≤ k) ∧ Aside0 (Kd.R Kd.string 9 w' w.heap.size (fun _ => True) (.slice Ao14 t116.length co14) t116) ∧ Aside0 (Below w.heap.size w w'))
        case atStart => exact ⟨(0), (by first | rfl | (simp; done) | (simp [*]; done)), H', ⟨Nat.le_refl _⟩, ⟨by (with_reducible repeat (first | apply Kd.R_alloc | apply Kd.R_drewN | apply Kd.R_drew)); exact HO118.out⟩, ⟨by repeat (first | (with_reducible first | exact HB.out | apply below_alloc | apply pw_below_drewN | apply below_drew1) | exact HB.out)⟩⟩
        case round =>
          clear H'
          try clear p2
          try clear c3
          try clear c4
          try clear c5
          try clear c5b0
          try clear c5b1
          try clear c7
          try clear c8
          try clear c8b0
          try clear c8b1
          try clear c8b2
          obtain ⟨x7_1, rfl, HA, HK1, HO_6, HB⟩ := hrel
          cases gk with
          | zero => exact absurd HA.out (by simp [abacuslaw21_RecordRejoins.l0])
          | succ k1 =>
            have H := HA.out
            clear HA
            simp only [abacuslaw21_RecordRejoins.l0] at H
            by_cases c15 : x7_1 < (t116.length : Int)
            · rw [if_pos c15] at H
              have c15b0 : decide (x7_1 < (t116.length : Int)) = true := decide_eq_true c15
              clear c15
              by_cases c16 : 0 ≤ x7_1
              · rw [if_pos c16] at H
                have c16b0 : decide (0 ≤ x7_1) = true := decide_eq_true c16
                clear c16
                replace H := Option.bind_eq_some_iff.mp H
                obtain ⟨t120, A170, H⟩ := H
                replace H : (if t120 = true then (some false) else (abacuslaw21_RecordRejoins.l0 k1 a0 a1 t116 (wrap64 (x7_1 + 1)))) = some r := H
                have A17 := Aside0.mk A170
                clear A170
                by_cases c18 : t120 = true
                · subst c18
                  have H1 : (some false) = some r := by rw [if_pos rfl] at H; exact H
                  clear H
                  have H := H1
                  clear H1
                  obtain rfl := Option.some.inj H
                  have p119 : 0 ≤ (x7_1 : Int) := of_decide_eq_true (by first | (with_reducible assumption) | assumption)
                  have q119 : x7_1 < (t116.length : Int) := of_decide_eq_true (by first | (with_reducible assumption) | assumption)
                  obtain ⟨ad119, e119, hx119_0⟩ := Kd.at_string (Kd.R_reads' HO_6.out).2.2 x7_1 p119 q119
                  cases e119
                  replace p119 := eq_true p119
                  replace q119 := eq_true q119
                  go_wp2_with (first | ((with_reducible refine gate_callee (f := 43) rfl ?_); refine goesL_ (some 33) rfl rfl Tryz.func43 (by kernel_rfl) rfl #[.string (rdOf ByteArray.empty t116 x7_1), .string a1] rfl (by (try simp only [List.map_toArray, List.map_cons, List.map_nil]); first | done | rfl | (simp only [List.length_drop, List.length_take]; rfl)) ?_; (with_reducible refine (abacuslaw21_holds.calls k1 (rdOf ByteArray.empty t116 x7_1) a1 true _ A17.out).mono ?_); rintro e w' ⟨rfl, ⟨nd, rfl⟩⟩; refine ⟨_, rfl, ?_⟩))
                  go_ret
                  exact ⟨by first | rfl | (simp [errW_none, errW_some] <;> rfl) | (simp only [append_nothing]; done) | (simp only [append_nothing]; rfl) | (simp [*, errW_none, errW_some] <;> rfl) | (simp [*, errW_none, errW_some] <;> (cases (rdOf ByteArray.empty t116 ji25).toList <;> rfl)), by repeat (first | (with_reducible first | exact HB.out | apply below_alloc | apply pw_below_drewN | apply below_drew1) | exact HB.out)⟩
                · replace c18 := Bool.eq_false_iff.mpr c18
                  subst c18
                  have H1 : (abacuslaw21_RecordRejoins.l0 k1 a0 a1 t116 (wrap64 (x7_1 + 1))) = some r := by rw [if_neg (show ¬ (false = true) by decide)] at H; exact H
                  clear H
                  have H := H1
                  clear H1
                  have H' := Aside0.mk H
                  clear H
                  have p119 : 0 ≤ (x7_1 : Int) := of_decide_eq_true (by first | (with_reducible assumption) | assumption)
                  have q119 : x7_1 < (t116.length : Int) := of_decide_eq_true (by first | (with_reducible assumption) | assumption)
                  obtain ⟨ad119, e119, hx119_0⟩ := Kd.at_string (Kd.R_reads' HO_6.out).2.2 x7_1 p119 q119
                  cases e119
                  replace p119 := eq_true p119
                  replace q119 := eq_true q119
                  go_wp2_with (first | ((with_reducible refine gate_callee (f := 43) rfl ?_); refine goesL_ (some 33) rfl rfl Tryz.func43 (by kernel_rfl) rfl #[.string (rdOf ByteArray.empty t116 x7_1), .string a1] rfl (by (try simp only [List.map_toArray, List.map_cons, List.map_nil]); first | done | rfl | (simp only [List.length_drop, List.length_take]; rfl)) ?_; (with_reducible refine (abacuslaw21_holds.calls k1 (rdOf ByteArray.empty t116 x7_1) a1 false _ A17.out).mono ?_); rintro e w' ⟨rfl, ⟨nd, rfl⟩⟩; refine ⟨_, rfl, ?_⟩))
                  go_roundg k1
                  case measure => have := HK1.out; omega
                  case rel => exact ⟨(wrap64 (x7_1 + 1)), (by first | rfl | (simp; done) | (simp [*]; done)), H', ⟨by have := HK1.out; omega⟩, ⟨by (with_reducible repeat (first | apply Kd.R_alloc | apply Kd.R_drewN | apply Kd.R_drew)); exact HO_6.out⟩, ⟨by repeat (first | (with_reducible first | exact HB.out | apply below_alloc | apply pw_below_drewN | apply below_drew1) | exact HB.out)⟩⟩
              · rw [if_neg c16] at H
                exact absurd H (by simp)
            · rw [if_neg c15] at H
              have c15b0 : decide (x7_1 < (t116.length : Int)) = false := decide_eq_false c15
              clear c15
              replace H := Option.bind_eq_some_iff.mp H
              obtain ⟨t121, A190, H⟩ := H
              replace H : (if t121.size + a1.size ≤ 9223372036854775807 then (if (t121 ++ a1).toList = a0.toList then (some true) else (if a0.size + a1.size ≤ 9223372036854775807 then (if (t121 ++ a1).toList = (a0 ++ a1).toList then (if 0 ≤ (wrap64 ((t116.length : Int) - 1)) then (if (wrap64 ((t116.length : Int) - 1)) < (t116.length : Int) then (some ((rdOf ByteArray.empty t116 (wrap64 ((t116.length : Int) - 1))).toList != ([] : List UInt8))) else (none)) else (none)) else (some false)) else (none))) else (none)) = some r := H
              have A19 := Aside0.mk A190
              clear A190
              by_cases c20 : t121.size + a1.size ≤ 9223372036854775807
              · rw [if_pos c20] at H
                have c20b0 := eq_true c20
                have c20b1 : decide (t121.size + a1.size ≤ 9223372036854775807) = true := decide_eq_true c20
                try have c20b2 : (9223372036854775807 < t121.size + a1.size) = False := eq_false (Nat.not_lt.2 c20)
                try have c20b3 := c20b2
                try simp only [ByteArray.size_append, size_lit, List.size_toArray, List.length_cons, List.length_nil, Nat.reduceAdd] at c20b3
                by_cases c21 : (t121 ++ a1).toList = a0.toList
                · rw [if_pos c21] at H
                  have c21b0 : ((t121 ++ a1).toList == a0.toList) = true := beq_iff_eq.mpr c21
                  have c21b1 : ((t121 ++ a1).toList != a0.toList) = false := bne_eq_false_iff_eq.mpr c21
                  clear c21
                  obtain rfl := Option.some.inj H
                  go_wp2_with (first | ((with_reducible refine gate_callee (f := 44) rfl ?_); refine goesL_ (some 36) rfl rfl Tryz.func44 (by kernel_rfl) rfl #[.slice Ao14 t116.length co14, .string a1] rfl (by (try simp only [List.map_toArray, List.map_cons, List.map_nil]); first | done | rfl | (simp only [List.length_drop, List.length_take]; rfl)) ?_; (with_reducible refine (abacuslaw21_joined.calls k1 _ _ t116 a1 t121 _ ?side1 ?side2 A19.out).mono ?_); (case side1 => repeat (first | exact (Kd.R_reads' HO_6.out).2.2 | (with_reducible refine Kd.C_alloc ?_ _) | (with_reducible refine Kd.C_drewN ?_ _) | (with_reducible refine Kd.C_drew ?_))); (case side2 => exact (Kd.R_reads' HO_6.out).2.1); rintro e w22 ⟨rfl, hb⟩; refine ⟨_, rfl, ?_⟩; have n0_ := Aside0.mk (Kd.R_below (by (with_reducible repeat (first | apply Kd.R_alloc | apply Kd.R_drewN | apply Kd.R_drew)); exact HO_6.out) hb); have n1_ := Aside0.mk (below_step (by repeat (first | (with_reducible first | exact HB.out | apply below_alloc | apply pw_below_drewN | apply below_drew1) | exact HB.out)) hb); clear HO_6; clear HB; have HO_6 := n0_; have HB := n1_; clear n0_ n1_; (try clear hb); (try clear hb2); (try clear hk); (try clear hi)))
                  go_ret
                  exact ⟨by first | rfl | (simp [errW_none, errW_some] <;> rfl) | (simp only [append_nothing]; done) | (simp only [append_nothing]; rfl) | (simp [*, errW_none, errW_some] <;> rfl) | (simp [*, errW_none, errW_some] <;> (cases (rdOf ByteArray.empty t116 ji25).toList <;> rfl)), by repeat (first | (with_reducible first | exact HB.out | apply below_alloc | apply pw_below_drewN | apply below_drew1) | exact HB.out)⟩
                · rw [if_neg c21] at H
                  have c21b0 : ((t121 ++ a1).toList == a0.toList) = false := beq_eq_false_iff_ne.mpr c21
                  have c21b1 : ((t121 ++ a1).toList != a0.toList) = true := bne_iff_ne.mpr c21
                  by_cases c23 : a0.size + a1.size ≤ 9223372036854775807
                  · rw [if_pos c23] at H
                    have c23b0 := eq_true c23
                    have c23b1 : decide (a0.size + a1.size ≤ 9223372036854775807) = true := decide_eq_true c23
                    try have c23b2 : (9223372036854775807 < a0.size + a1.size) = False := eq_false (Nat.not_lt.2 c23)
                    try have c23b3 := c23b2
                    try simp only [ByteArray.size_append, size_lit, List.size_toArray, List.length_cons, List.length_nil, Nat.reduceAdd] at c23b3
                    by_cases c24 : (t121 ++ a1).toList = (a0 ++ a1).toList
                    · rw [if_pos c24] at H
                      have c24b0 : ((t121 ++ a1).toList == (a0 ++ a1).toList) = true := beq_iff_eq.mpr c24
                      have c24b1 : ((t121 ++ a1).toList != (a0 ++ a1).toList) = false := bne_eq_false_iff_eq.mpr c24
                      clear c24
                      obtain ⟨ji25, hji25⟩ : ∃ j_ : Int, (wrap64 ((t116.length : Int) - 1)) = j_ := ⟨_, rfl⟩
                      replace H : (if 0 ≤ (ji25) then (if (ji25) < (t116.length : Int) then (some ((rdOf ByteArray.empty t116 (ji25)).toList != ([] : List UInt8))) else (none)) else (none)) = some r := by first | (rw [hji25] at H; exact H) | (simp only [hji25] at H ⊢; exact H)
                      (try rw [hji25] at A19)
                      have hji25w : (IntKind.i64.wrap ((t116.length : Int) - 1)) = ji25 := (i64_w _).trans hji25
                      by_cases c26 : 0 ≤ (ji25)
                      · rw [if_pos c26] at H
                        have c26b0 : decide (0 ≤ (ji25)) = true := decide_eq_true c26
                        clear c26
                        by_cases c27 : (ji25) < (t116.length : Int)
                        · rw [if_pos c27] at H
                          have c27b0 : decide ((ji25) < (t116.length : Int)) = true := decide_eq_true c27
                          clear c27
                          obtain rfl := Option.some.inj H
                          go_wp2_with (first | ((with_reducible refine gate_callee (f := 44) rfl ?_); refine goesL_ (some 36) rfl rfl Tryz.func44 (by kernel_rfl) rfl #[.slice Ao14 t116.length co14, .string a1] rfl (by (try simp only [List.map_toArray, List.map_cons, List.map_nil]); first | done | rfl | (simp only [List.length_drop, List.length_take]; rfl)) ?_; (with_reducible refine (abacuslaw21_joined.calls k1 _ _ t116 a1 t121 _ ?side1 ?side2 A19.out).mono ?_); (case side1 => repeat (first | exact (Kd.R_reads' HO_6.out).2.2 | (with_reducible refine Kd.C_alloc ?_ _) | (with_reducible refine Kd.C_drewN ?_ _) | (with_reducible refine Kd.C_drew ?_))); (case side2 => exact (Kd.R_reads' HO_6.out).2.1); rintro e w28 ⟨rfl, hb⟩; refine ⟨_, rfl, ?_⟩; have n0_ := Aside0.mk (Kd.R_below (by (with_reducible repeat (first | apply Kd.R_alloc | apply Kd.R_drewN | apply Kd.R_drew)); exact HO_6.out) hb); have n1_ := Aside0.mk (below_step (by repeat (first | (with_reducible first | exact HB.out | apply below_alloc | apply pw_below_drewN | apply below_drew1) | exact HB.out)) hb); clear HO_6; clear HB; have HO_6 := n0_; have HB := n1_; clear n0_ n1_; (try clear hb); (try clear hb2); (try clear hk); (try clear hi); have p122 : 0 ≤ ((ji25) : Int) := of_decide_eq_true (by first | (with_reducible assumption) | assumption); have q122 : (ji25) < (t116.length : Int) := of_decide_eq_true (by first | (with_reducible assumption) | assumption); obtain ⟨ad122, e122, hx122_0⟩ := Kd.at_string (Kd.R_reads' HO_6.out).2.2 (ji25) p122 q122; cases e122; replace p122 := eq_true p122; replace q122 := eq_true q122))
                          go_ret
                          exact ⟨by first | rfl | (simp [errW_none, errW_some] <;> rfl) | (simp only [append_nothing]; done) | (simp only [append_nothing]; rfl) | (simp only [← hji25]; first | rfl | (simp [errW_none, errW_some] <;> rfl)) | (simp [*, errW_none, errW_some] <;> rfl) | (simp [*, errW_none, errW_some] <;> (cases (rdOf ByteArray.empty t116 ji25).toList <;> rfl)), by repeat (first | (with_reducible first | exact HB.out | apply below_alloc | apply pw_below_drewN | apply below_drew1) | exact HB.out)⟩
                        · rw [if_neg c27] at H
                          exact absurd H (by simp)
                      · rw [if_neg c26] at H
                        exact absurd H (by simp)
                    · rw [if_neg c24] at H
                      have c24b0 : ((t121 ++ a1).toList == (a0 ++ a1).toList) = false := beq_eq_false_iff_ne.mpr c24
                      have c24b1 : ((t121 ++ a1).toList != (a0 ++ a1).toList) = true := bne_iff_ne.mpr c24
                      obtain rfl := Option.some.inj H
                      go_wp2_with (first | ((with_reducible refine gate_callee (f := 44) rfl ?_); refine goesL_ (some 36) rfl rfl Tryz.func44 (by kernel_rfl) rfl #[.slice Ao14 t116.length co14, .string a1] rfl (by (try simp only [List.map_toArray, List.map_cons, List.map_nil]); first | done | rfl | (simp only [List.length_drop, List.length_take]; rfl)) ?_; (with_reducible refine (abacuslaw21_joined.calls k1 _ _ t116 a1 t121 _ ?side1 ?side2 A19.out).mono ?_); (case side1 => repeat (first | exact (Kd.R_reads' HO_6.out).2.2 | (with_reducible refine Kd.C_alloc ?_ _) | (with_reducible refine Kd.C_drewN ?_ _) | (with_reducible refine Kd.C_drew ?_))); (case side2 => exact (Kd.R_reads' HO_6.out).2.1); rintro e w29 ⟨rfl, hb⟩; refine ⟨_, rfl, ?_⟩; have n0_ := Aside0.mk (Kd.R_below (by (with_reducible repeat (first | apply Kd.R_alloc | apply Kd.R_drewN | apply Kd.R_drew)); exact HO_6.out) hb); have n1_ := Aside0.mk (below_step (by repeat (first | (with_reducible first | exact HB.out | apply below_alloc | apply pw_below_drewN | apply below_drew1) | exact HB.out)) hb); clear HO_6; clear HB; have HO_6 := n0_; have HB := n1_; clear n0_ n1_; (try clear hb); (try clear hb2); (try clear hk); (try clear hi)))
                      go_ret
                      exact ⟨by first | rfl | (simp [errW_none, errW_some] <;> rfl) | (simp only [append_nothing]; done) | (simp only [append_nothing]; rfl) | (simp [*, errW_none, errW_some] <;> rfl) | (simp [*, errW_none, errW_some] <;> (cases (rdOf ByteArray.empty t116 ji25).toList <;> rfl)), by repeat (first | (with_reducible first | exact HB.out | apply below_alloc | apply pw_below_drewN | apply below_drew1) | exact HB.out)⟩
                  · rw [if_neg c23] at H
                    exact absurd H (by simp)
              · rw [if_neg c20] at H
                exact absurd H (by simp)
  · replace c4 := Bool.eq_false_iff.mpr c4
    subst c4
    have H1 : (some false) = some r := by rw [if_neg (show ¬ (false = true) by decide)] at H; exact H
    clear H
    have H := H1
    clear H1
    obtain rfl := Option.some.inj H
    go_enter Tryz.func7, Tryz.ntmps7
    go_wp2_with (first | ((with_reducible refine gate_callee (f := 30) rfl ?_); refine goesL_ (some 9) rfl rfl Tryz.func30 (by kernel_rfl) rfl #[] rfl (by (try simp only [List.map_toArray, List.map_cons, List.map_nil]); first | done | rfl | (simp only [List.length_drop, List.length_take]; rfl)) ?_; (with_reducible refine (abacuslaw21_awake.calls  false _ A3.out).mono ?_); rintro e w30 ⟨rfl, hb⟩; refine ⟨_, rfl, ?_⟩; have n0_ := Aside0.mk (below_step (by repeat (first | (with_reducible first | exact HB.out | apply below_alloc | apply pw_below_drewN | apply below_drew1) | exact HB.out)) hb); clear HB; have HB := n0_; clear n0_; (try clear hb); (try clear hb2); (try clear hk); (try clear hi)))
    go_ret
    exact ⟨by first | rfl | (simp [errW_none, errW_some] <;> rfl) | (simp only [append_nothing]; done) | (simp only [append_nothing]; rfl) | (simp [*, errW_none, errW_some] <;> rfl) | (simp [*, errW_none, errW_some] <;> (cases (rdOf ByteArray.empty t116 ji25).toList <;> rfl)), by repeat (first | (with_reducible first | exact HB.out | apply below_alloc | apply pw_below_drewN | apply below_drew1) | exact HB.out)⟩

end Go.Proofs.YtmbacdkpgfbclaaGreatDoor.PXJ
