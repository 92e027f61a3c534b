/- relate's order in plain words: numbers by their rank, NaNs, texts by their bytes; a strict weak order of entries; conditions: none. -/
import Derived.Test.YtmbacdkpgfbclaaGreatDoorTop
import Derived.Laws.BitsAllLaws
namespace Go.Proofs.YtmbacdkpgfbclaaGreatDoor
open Go.RowKit Go.Proofs.YtmbacdkpgfbclaaGreatDoorW.PrintWords Heap
set_option linter.unusedVariables false
set_option linter.unusedSimpArgs false

def absI (x : Int) : Int := Go.bits .andNot .u64 x 9223372036854775808
theorem abs_is (x : Int) : absI x = IntKind.u64.wrap (((BitVec.ofInt 64 x &&& ~~~BitVec.ofInt 64 9223372036854775808).toNat : Nat) : Int) := rfl
theorem abs_nat (x : BitVec 64) : (x &&& ~~~BitVec.ofInt 64 9223372036854775808).toNat < 9223372036854775808 := by
 rw [BitVec.toNat_and, show (~~~BitVec.ofInt 64 9223372036854775808).toNat = 2 ^ 63 - 1 by decide, Nat.and_two_pow_sub_one_eq_mod]; exact Nat.mod_lt _ (by decide)
theorem abs_range (x : Int) : 0 ≤ absI x ∧ absI x < 9223372036854775808 := by
 rw [abs_is]; have h2 := abs_nat (BitVec.ofInt 64 x); generalize (BitVec.ofInt 64 x &&& ~~~BitVec.ofInt 64 9223372036854775808).toNat = m at h2; have h3 : IntKind.u64.wrap (m : Int) = (m : Int) := by
  have : IntKind.u64.wrap (m : Int) = (m : Int) % 18446744073709551616 := by simp [IntKind.wrap, IntKind.bits, IntKind.signed]
  rw [this]; omega
 rw [h3]; omega
theorem abs_wrap (x : Int) : wrap64 (absI x) = absI x := by
 have := abs_range x; unfold wrap64; omega
def nanI (x : Int) : Bool := decide (absI x > 9218868437227405312)
def rankI (x : Int) : Int := if Go.bits .and .u64 x 9223372036854775808 = 0 then wrap64 (absI x) else wrap64 (-(wrap64 (absI x)))
def numI (a : Val) : Int := if a.1 = 1 ∨ a.1 = 3 then a.2.1 else 0
def classI (a : Val) : Int := if a.1 = 2 then 2 else if nanI (numI a) = true then 1 else 0
def ordI (a b : Int) : Int := if a < b then -1 else if a > b then 1 else 0
def cmpL : List UInt8 → List UInt8 → Int
 | [], [] => 0
 | [], _ :: _ => -1
 | _ :: _, [] => 1
 | x :: xs, y :: ys => if x.toNat < y.toNat then -1 else if y.toNat < x.toNat then 1 else cmpL xs ys
def cmpT (a b : ByteArray) : Int := cmpL a.data.toList b.data.toList
def ordV (a b : Val) : Int :=
 if classI a < classI b then -1 else if classI a > classI b then 1 else if classI a = 2 then cmpT a.2.2 b.2.2 else if classI a = 1 then 0 else ordI (rankI (numI a)) (rankI (numI b))
abbrev valE (e : Ent) : Val := (e.1, e.2.1, e.2.2.1)
def ltE (x y : Ent) : Bool := decide (ordV (valE x) (valE y) < 0 ∨ ordV (valE x) (valE y) = 0 ∧ x.2.2.2 < y.2.2.2)

theorem cmpL_anti : ∀ a b : List UInt8, cmpL b a = -cmpL a b
 | [], [] => rfl
 | [], _ :: _ => rfl
 | _ :: _, [] => rfl
 | x :: xs, y :: ys => by
  have ih := cmpL_anti xs ys
  unfold cmpL
  split <;> split <;> first | omega | (split <;> first | omega | exact ih)
theorem cmpL_trans : ∀ a b c : List UInt8, cmpL a b ≤ 0 → cmpL b c ≤ 0 → cmpL a c ≤ 0 ∧ (cmpL a c = 0 → cmpL a b = 0 ∧ cmpL b c = 0)
 | [], [], [], _, _ => by simp [cmpL]
 | [], [], _ :: _, _, _ => by simp [cmpL]
 | [], _ :: _, [], _, h => by simp [cmpL] at h
 | [], _ :: _, _ :: _, _, _ => by simp [cmpL]
 | _ :: _, [], _, h, _ => by simp [cmpL] at h
 | _ :: _, _ :: _, [], _, h => by simp [cmpL] at h
 | x :: xs, y :: ys, z :: zs, h1, h2 => by
  have ih := cmpL_trans xs ys zs
  simp only [cmpL] at h1 h2 ⊢
  by_cases a1 : x.toNat < y.toNat
  ·
   rw [if_pos a1] at h1 ⊢
   by_cases b1 : y.toNat < z.toNat
   ·
    rw [if_pos b1] at h2 ⊢
    rw [if_pos (by omega)]
    omega
   ·
    rw [if_neg b1] at h2
    by_cases b2 : z.toNat < y.toNat
    ·
     rw [if_pos b2] at h2; omega
    ·
     rw [if_pos (by omega : x.toNat < z.toNat)]
     omega
  ·
   rw [if_neg a1] at h1
   by_cases a2 : y.toNat < x.toNat
   ·
    rw [if_pos a2] at h1; omega
   ·
    rw [if_neg a2] at h1
    by_cases b1 : y.toNat < z.toNat
    ·
     rw [if_pos (by omega : x.toNat < z.toNat)]
     omega
    ·
     rw [if_neg b1] at h2
     by_cases b2 : z.toNat < y.toNat
     ·
      rw [if_pos b2] at h2; omega
     ·
      rw [if_neg b2] at h2
      rw [if_neg (by omega : ¬ x.toNat < z.toNat), if_neg (by omega : ¬ z.toNat < x.toNat), if_neg a1, if_neg a2, if_neg b1, if_neg b2]
      exact ih h1 h2
theorem classI_range (a : Val) : 0 ≤ classI a ∧ classI a ≤ 2 := by
 unfold classI; split
 · omega
 split <;> omega
theorem ordI_anti (a b : Int) : ordI b a = -ordI a b := by
 unfold ordI; split <;> split <;> first | omega | (split <;> omega)
theorem ordI_le {a b : Int} : ordI a b ≤ 0 ↔ a ≤ b := by
 unfold ordI; split
 · omega
 split <;> omega
theorem ordI_zero {a b : Int} : ordI a b = 0 ↔ a = b := by
 unfold ordI; split
 · omega
 split <;> omega
theorem ordV_anti (a b : Val) : ordV b a = -ordV a b := by
 unfold ordV; by_cases h1 : classI a < classI b
 · rw [if_neg (by omega), if_pos (by omega), if_pos h1]; rfl
 rw [if_neg h1]; by_cases h2 : classI a > classI b
 · rw [if_pos (by omega : classI b < classI a), if_neg h1, if_pos h2]
 have h3 : classI b = classI a := by omega
 rw [if_neg (by omega : ¬ classI b < classI a), if_neg (by omega : ¬ classI b > classI a), if_neg h2, h3]; by_cases h4 : classI a = 2
 · rw [if_pos h4, if_pos h4]; exact cmpL_anti _ _
 rw [if_neg h4, if_neg h4]; by_cases h5 : classI a = 1
 · rw [if_pos h5, if_pos h5]; rfl
 rw [if_neg h5, if_neg h5]; exact ordI_anti _ _
theorem ordV_trans (a b c : Val) (h1 : ordV a b ≤ 0) (h2 : ordV b c ≤ 0) : ordV a c ≤ 0 ∧ (ordV a c = 0 → ordV a b = 0 ∧ ordV b c = 0) := by
 unfold ordV at *; by_cases a1 : classI a < classI b
 ·
  rw [if_pos a1] at h1 ⊢; by_cases b1 : classI b < classI c
  · rw [if_pos b1] at h2 ⊢; rw [if_pos (by omega)]; omega
  rw [if_neg b1] at h2; by_cases b2 : classI b > classI c
  · rw [if_pos b2] at h2; omega
  rw [if_pos (by omega : classI a < classI c)]; omega
 rw [if_neg a1] at h1; by_cases a2 : classI a > classI b
 · rw [if_pos a2] at h1; omega
 rw [if_neg a2] at h1; have ab : classI b = classI a := by omega
 by_cases b1 : classI b < classI c
 · rw [if_pos (by omega : classI a < classI c)]; omega
 rw [if_neg b1] at h2; by_cases b2 : classI b > classI c
 · rw [if_pos b2] at h2; omega
 rw [if_neg b2] at h2; rw [if_neg (by omega : ¬ classI a < classI c), if_neg (by omega : ¬ classI a > classI c), if_neg a1, if_neg a2, if_neg b1, if_neg b2]; rw [ab] at h2 ⊢; by_cases h4 : classI a = 2
 · simp only [if_pos h4] at h1 h2 ⊢; exact cmpL_trans _ _ _ h1 h2
 simp only [if_neg h4] at h1 h2 ⊢; by_cases h5 : classI a = 1
 · simp only [if_pos h5]; simp
 simp only [if_neg h5] at h1 h2 ⊢; rw [ordI_le] at h1 h2; rw [ordI_le, ordI_zero, ordI_zero, ordI_zero]; omega
theorem ltE_iff {x y : Ent} : ltE x y = true ↔ ordV (valE x) (valE y) < 0 ∨ ordV (valE x) (valE y) = 0 ∧ x.2.2.2 < y.2.2.2 := by
 unfold ltE; exact decide_eq_true_iff
theorem ltE_false {x y : Ent} : ltE x y = false ↔ ¬ (ordV (valE x) (valE y) < 0 ∨ ordV (valE x) (valE y) = 0 ∧ x.2.2.2 < y.2.2.2) := by
 unfold ltE; exact decide_eq_false_iff_not
theorem ltE_weak : Weak ltE where
 asym a b h := by
  rw [ltE_iff] at h; rw [ltE_false]; have := ordV_anti (valE a) (valE b); omega
 trans a b c h1 h2 := by
  rw [ltE_false] at *; have e1 := ordV_anti (valE a) (valE b); have e2 := ordV_anti (valE b) (valE c); have e3 := ordV_anti (valE a) (valE c); have t := ordV_trans (valE c) (valE b) (valE a) (by omega) (by omega); omega
end Go.Proofs.YtmbacdkpgfbclaaGreatDoor
