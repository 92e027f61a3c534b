/- What a queue holds in any order of pushes and pops, and rows of values and marks; plain but for the rows; conditions: none. -/
import Derived.Test.YtmbacdkpgfbclaaGreatDoorTop
import Derived.Laws.BitsAllLaws
import Derived.Laws.EntriesVeiled
namespace Go.Proofs.YtmbacdkpgfbclaaGreatDoor
open Go.RowKit Go.Proofs.YtmbacdkpgfbclaaGreatDoorW.PrintWords Heap
set_option linter.unusedVariables false
set_option linter.unusedSimpArgs false

def absI (x : Int) : Int := Go.bits .andNot .u64 x 9223372036854775808
theorem abs_is (x : Int) : absI x = IntKind.u64.wrap (((BitVec.ofInt 64 x &&& ~~~BitVec.ofInt 64 9223372036854775808).toNat : Nat) : Int) := rfl
theorem abs_nat (x : BitVec 64) : (x &&& ~~~BitVec.ofInt 64 9223372036854775808).toNat < 9223372036854775808 := by
 rw [BitVec.toNat_and, show (~~~BitVec.ofInt 64 9223372036854775808).toNat = 2 ^ 63 - 1 by decide, Nat.and_two_pow_sub_one_eq_mod]; exact Nat.mod_lt _ (by decide)
theorem abs_range (x : Int) : 0 ≤ absI x ∧ absI x < 9223372036854775808 := by
 rw [abs_is]; have h2 := abs_nat (BitVec.ofInt 64 x); generalize (BitVec.ofInt 64 x &&& ~~~BitVec.ofInt 64 9223372036854775808).toNat = m at h2; have h3 : IntKind.u64.wrap (m : Int) = (m : Int) := by
  have : IntKind.u64.wrap (m : Int) = (m : Int) % 18446744073709551616 := by simp [IntKind.wrap, IntKind.bits, IntKind.signed]
  rw [this]; omega
 rw [h3]; omega
theorem abs_wrap (x : Int) : wrap64 (absI x) = absI x := by
 have := abs_range x; unfold wrap64; omega
def nanI (x : Int) : Bool := decide (absI x > 9218868437227405312)
def rankI (x : Int) : Int := if Go.bits .and .u64 x 9223372036854775808 = 0 then wrap64 (absI x) else wrap64 (-(wrap64 (absI x)))
def numI (a : Val) : Int := if a.1 = 1 ∨ a.1 = 3 then a.2.1 else 0
def classI (a : Val) : Int := if a.1 = 2 then 2 else if nanI (numI a) = true then 1 else 0
def ordI (a b : Int) : Int := if a < b then -1 else if a > b then 1 else 0
def cmpL : List UInt8 → List UInt8 → Int
 | [], [] => 0
 | [], _ :: _ => -1
 | _ :: _, [] => 1
 | x :: xs, y :: ys => if x.toNat < y.toNat then -1 else if y.toNat < x.toNat then 1 else cmpL xs ys
def cmpT (a b : ByteArray) : Int := cmpL a.data.toList b.data.toList
def ordV (a b : Val) : Int :=
 if classI a < classI b then -1 else if classI a > classI b then 1 else if classI a = 2 then cmpT a.2.2 b.2.2 else if classI a = 1 then 0 else ordI (rankI (numI a)) (rankI (numI b))
abbrev valE (e : Ent) : Val := (e.1, e.2.1, e.2.2.1)
def ltE (x y : Ent) : Bool := decide (ordV (valE x) (valE y) < 0 ∨ ordV (valE x) (valE y) = 0 ∧ x.2.2.2 < y.2.2.2)

theorem cmpL_anti : ∀ a b : List UInt8, cmpL b a = -cmpL a b
 | [], [] => rfl
 | [], _ :: _ => rfl
 | _ :: _, [] => rfl
 | x :: xs, y :: ys => by
  have ih := cmpL_anti xs ys
  unfold cmpL
  split <;> split <;> first | omega | (split <;> first | omega | exact ih)
theorem cmpL_trans : ∀ a b c : List UInt8, cmpL a b ≤ 0 → cmpL b c ≤ 0 → cmpL a c ≤ 0 ∧ (cmpL a c = 0 → cmpL a b = 0 ∧ cmpL b c = 0)
 | [], [], [], _, _ => by simp [cmpL]
 | [], [], _ :: _, _, _ => by simp [cmpL]
 | [], _ :: _, [], _, h => by simp [cmpL] at h
 | [], _ :: _, _ :: _, _, _ => by simp [cmpL]
 | _ :: _, [], _, h, _ => by simp [cmpL] at h
 | _ :: _, _ :: _, [], _, h => by simp [cmpL] at h
 | x :: xs, y :: ys, z :: zs, h1, h2 => by
  have ih := cmpL_trans xs ys zs
  simp only [cmpL] at h1 h2 ⊢
  by_cases a1 : x.toNat < y.toNat
  ·
   rw [if_pos a1] at h1 ⊢
   by_cases b1 : y.toNat < z.toNat
   ·
    rw [if_pos b1] at h2 ⊢
    rw [if_pos (by omega)]
    omega
   ·
    rw [if_neg b1] at h2
    by_cases b2 : z.toNat < y.toNat
    ·
     rw [if_pos b2] at h2; omega
    ·
     rw [if_pos (by omega : x.toNat < z.toNat)]
     omega
  ·
   rw [if_neg a1] at h1
   by_cases a2 : y.toNat < x.toNat
   ·
    rw [if_pos a2] at h1; omega
   ·
    rw [if_neg a2] at h1
    by_cases b1 : y.toNat < z.toNat
    ·
     rw [if_pos (by omega : x.toNat < z.toNat)]
     omega
    ·
     rw [if_neg b1] at h2
     by_cases b2 : z.toNat < y.toNat
     ·
      rw [if_pos b2] at h2; omega
     ·
      rw [if_neg b2] at h2
      rw [if_neg (by omega : ¬ x.toNat < z.toNat), if_neg (by omega : ¬ z.toNat < x.toNat), if_neg a1, if_neg a2, if_neg b1, if_neg b2]
      exact ih h1 h2
theorem classI_range (a : Val) : 0 ≤ classI a ∧ classI a ≤ 2 := by
 unfold classI; split
 · omega
 split <;> omega
theorem ordI_anti (a b : Int) : ordI b a = -ordI a b := by
 unfold ordI; split <;> split <;> first | omega | (split <;> omega)
theorem ordI_le {a b : Int} : ordI a b ≤ 0 ↔ a ≤ b := by
 unfold ordI; split
 · omega
 split <;> omega
theorem ordI_zero {a b : Int} : ordI a b = 0 ↔ a = b := by
 unfold ordI; split
 · omega
 split <;> omega
theorem ordV_anti (a b : Val) : ordV b a = -ordV a b := by
 unfold ordV; by_cases h1 : classI a < classI b
 · rw [if_neg (by omega), if_pos (by omega), if_pos h1]; rfl
 rw [if_neg h1]; by_cases h2 : classI a > classI b
 · rw [if_pos (by omega : classI b < classI a), if_neg h1, if_pos h2]
 have h3 : classI b = classI a := by omega
 rw [if_neg (by omega : ¬ classI b < classI a), if_neg (by omega : ¬ classI b > classI a), if_neg h2, h3]; by_cases h4 : classI a = 2
 · rw [if_pos h4, if_pos h4]; exact cmpL_anti _ _
 rw [if_neg h4, if_neg h4]; by_cases h5 : classI a = 1
 · rw [if_pos h5, if_pos h5]; rfl
 rw [if_neg h5, if_neg h5]; exact ordI_anti _ _
theorem ordV_trans (a b c : Val) (h1 : ordV a b ≤ 0) (h2 : ordV b c ≤ 0) : ordV a c ≤ 0 ∧ (ordV a c = 0 → ordV a b = 0 ∧ ordV b c = 0) := by
 unfold ordV at *; by_cases a1 : classI a < classI b
 ·
  rw [if_pos a1] at h1 ⊢; by_cases b1 : classI b < classI c
  · rw [if_pos b1] at h2 ⊢; rw [if_pos (by omega)]; omega
  rw [if_neg b1] at h2; by_cases b2 : classI b > classI c
  · rw [if_pos b2] at h2; omega
  rw [if_pos (by omega : classI a < classI c)]; omega
 rw [if_neg a1] at h1; by_cases a2 : classI a > classI b
 · rw [if_pos a2] at h1; omega
 rw [if_neg a2] at h1; have ab : classI b = classI a := by omega
 by_cases b1 : classI b < classI c
 · rw [if_pos (by omega : classI a < classI c)]; omega
 rw [if_neg b1] at h2; by_cases b2 : classI b > classI c
 · rw [if_pos b2] at h2; omega
 rw [if_neg b2] at h2; rw [if_neg (by omega : ¬ classI a < classI c), if_neg (by omega : ¬ classI a > classI c), if_neg a1, if_neg a2, if_neg b1, if_neg b2]; rw [ab] at h2 ⊢; by_cases h4 : classI a = 2
 · simp only [if_pos h4] at h1 h2 ⊢; exact cmpL_trans _ _ _ h1 h2
 simp only [if_neg h4] at h1 h2 ⊢; by_cases h5 : classI a = 1
 · simp only [if_pos h5]; simp
 simp only [if_neg h5] at h1 h2 ⊢; rw [ordI_le] at h1 h2; rw [ordI_le, ordI_zero, ordI_zero, ordI_zero]; omega
theorem ltE_iff {x y : Ent} : ltE x y = true ↔ ordV (valE x) (valE y) < 0 ∨ ordV (valE x) (valE y) = 0 ∧ x.2.2.2 < y.2.2.2 := by
 unfold ltE; exact decide_eq_true_iff
theorem ltE_false {x y : Ent} : ltE x y = false ↔ ¬ (ordV (valE x) (valE y) < 0 ∨ ordV (valE x) (valE y) = 0 ∧ x.2.2.2 < y.2.2.2) := by
 unfold ltE; exact decide_eq_false_iff_not
theorem ltE_weak : Weak ltE where
 asym a b h := by
  rw [ltE_iff] at h; rw [ltE_false]; have := ordV_anti (valE a) (valE b); omega
 trans a b c h1 h2 := by
  rw [ltE_false] at *; have e1 := ordV_anti (valE a) (valE b); have e2 := ordV_anti (valE b) (valE c); have e3 := ordV_anti (valE a) (valE c); have t := ordV_trans (valE c) (valE b) (valE a) (by omega) (by omega); omega
end Go.Proofs.YtmbacdkpgfbclaaGreatDoor
namespace Go.Proofs.YtmbacdkpgfbclaaGreatDoor
open Go.RowKit Go.Proofs.YtmbacdkpgfbclaaGreatDoorW.PrintWords Heap
set_option linter.unusedVariables false
set_option linter.unusedSimpArgs false

theorem Plain_any (k x : Int) (s : ByteArray) (w : World) : Calls Tryz.prog 47 #[vAgg k x s] w fun e w' => e = .returned (vAgg (plainOf k x s).1 (plainOf k x s).2.1 (plainOf k x s).2.2) ∧ Below w.heap.size w w' := by
 unfold plainOf; by_cases c1 : k = 1
 · subst c1; exact Plain_1 x s w
 by_cases c2 : k = 2
 · subst c2; exact Plain_2 x s w
 by_cases c3 : k = 3
 · subst c3; exact Plain_3 x s w
 rw [if_neg c1, if_neg c2, if_neg c3]; exact Plain_0 k x s w (beq_eq_false_iff_ne.mpr c1) (beq_eq_false_iff_ne.mpr c2) (beq_eq_false_iff_ne.mpr c3)

/-- A queue lies at block q. -/
abbrev QAt (base q : Nat) (v : Value) (L : List Ent) (next : Int) (w : World) : Prop := HeapAt base q 105 #[v, lessV, .int .i64 next] v L w
/-- The queue's number is turned. -/
theorem HeapAt.next {base q : Nat} {v : Value} {L : List Ent} {n n' : Int} {w : World} (h : QAt base q v L n w) : QAt base q v L n' (w.setCell ⟨q, 2, none⟩ (.int .i64 n')) :=
 ⟨blk_put h.blk 2 _ rfl, rfl, rfl, own_setCell h.row h.apart _, h.ne, h.hb⟩
end Go.Proofs.YtmbacdkpgfbclaaGreatDoor
namespace Go.Proofs.YtmbacdkpgfbclaaGreatDoor
open Go.RowKit Go.Proofs.YtmbacdkpgfbclaaGreatDoorW.PrintWords Go.Proofs.YtmbacdkpgfbclaaGreatDoorW.PrintLast Heap
set_option linter.unusedVariables false

theorem g_append_lt {α : Type} [Inhabited α] (L : List α) (x : α) {i : Nat} (h : i < L.length) : g (L ++ [x]) i = g L i := by
 unfold g; rw [List.getD_eq_getElem?_getD, List.getD_eq_getElem?_getD, List.getElem?_append_left h]
theorem g_append_end {α : Type} [Inhabited α] (L : List α) (x : α) : g (L ++ [x]) L.length = x := by
 unfold g; rw [List.getD_eq_getElem?_getD, List.getElem?_append_right (Nat.le_refl _), Nat.sub_self]; rfl
/-- The marks: whether a number is still in. -/
def mk (bs : List Bool) (i : Nat) : Bool := bs.getD i false
theorem mk_append_lt (bs : List Bool) (x : Bool) {i : Nat} (h : i < bs.length) : mk (bs ++ [x]) i = mk bs i := by
 unfold mk; rw [List.getD_eq_getElem?_getD, List.getD_eq_getElem?_getD, List.getElem?_append_left h]
theorem mk_append_end (bs : List Bool) (x : Bool) : mk (bs ++ [x]) bs.length = x := by
 unfold mk; rw [List.getD_eq_getElem?_getD, List.getElem?_append_right (Nat.le_refl _), Nat.sub_self]; rfl
structure InvL (vs : List Val) (bs : List Bool) (L : List Ent) : Prop where
 len : bs.length = vs.length
 heap : Hp ltE L L.length
 inn : ∀ e ∈ L, ∃ i, i < vs.length ∧ mk bs i = true ∧ e = entOf (g vs i) i
 all : ∀ i, i < vs.length → mk bs i = true → entOf (g vs i) i ∈ L
 nodup : L.Nodup
theorem entOf_inj {v v' : Val} {i j : Nat} (h : entOf v i = entOf v' j) : i = j := by
 have h2 := congrArg (fun e : Ent => e.2.2.2) h; have h3 : (i : Int) = (j : Int) := h2; omega
theorem inv_push {vs : List Val} {bs : List Bool} {L : List Ent} (h : InvL vs bs L) (x : Val) : InvL (vs ++ [x]) (bs ++ [true]) (push ltE L (entOf x vs.length)) := by
 have hp := push_perm ltE L (entOf x vs.length); refine ⟨by rw [List.length_append, List.length_append, h.len]; rfl, push_heap ltE_weak _ h.heap, fun e he => ?_, fun i hi hb => ?_, ?_⟩
 ·
  rcases List.mem_cons.mp (hp.subset he) with rfl | he'
  · exact ⟨vs.length, by rw [List.length_append]; exact Nat.lt_succ_self _, by rw [← h.len]; exact mk_append_end bs true, by rw [g_append_end]⟩
  obtain ⟨i, h1, h2, h3⟩ := h.inn e he'; exact ⟨i, by rw [List.length_append]; exact Nat.lt_succ_of_lt h1, by rw [mk_append_lt bs true (by rw [h.len]; exact h1)]; exact h2, by rw [g_append_lt vs x h1]; exact h3⟩
 ·
  refine hp.symm.subset ?_; rw [List.length_append] at hi; have hi' : i < vs.length + 1 := hi; rcases Nat.lt_or_ge i vs.length with h1 | h1
  · rw [mk_append_lt bs true (by rw [h.len]; exact h1)] at hb; rw [g_append_lt vs x h1]; exact List.mem_cons_of_mem _ (h.all i h1 hb)
  obtain rfl : i = vs.length := by omega
  rw [g_append_end]; exact List.mem_cons_self ..
 refine hp.nodup_iff.mpr (List.nodup_cons.mpr ⟨fun hm => ?_, h.nodup⟩); obtain ⟨i, h1, _, h3⟩ := h.inn _ hm; have := entOf_inj h3; omega
def Ahead (vs : List Val) (bs : List Bool) (i : Nat) : Prop := ∀ k, k < vs.length → mk bs k = true → ordV (g vs i) (g vs k) ≤ 0 ∧ (ordV (g vs i) (g vs k) = 0 → i ≤ k)
/-! ### rows of values, of marks -/
def encV (v : Val) : List Value := [.int .i64 v.1, .int .u64 v.2.1, .string v.2.2]
def flatV (vs : List Val) : List Value := vs.flatMap encV
theorem flatV_append (a b : List Val) : flatV (a ++ b) = flatV a ++ flatV b := List.flatMap_append
theorem flatV_get : ∀ (L : List Val) (i j : Nat) (e : Val), L[i]? = some e → j < 3 → (flatV L)[3 * i + j]? = (encV e)[j]?
 | [], _, _, _, h, _ => by cases h
 | x :: L, 0, j, e, h, hj => by
  cases h
  show (encV x ++ flatV L)[3 * 0 + j]? = _
  rw [Nat.mul_zero, Nat.zero_add, List.getElem?_append_left (by exact hj)]
 | x :: L, i + 1, j, e, h, hj => by
  show (encV x ++ flatV L)[3 * (i + 1) + j]? = _
  have h2 : (encV x).length = 3 := rfl
  rw [List.getElem?_append_right (by omega), h2, show 3 * (i + 1) + j - 3 = 3 * i + j by omega]
  exact flatV_get L i j e h hj
theorem g_get' {α : Type} [Inhabited α] (L : List α) (i : Nat) (hi : i < L.length) : L[i]? = some (g L i) := by
 unfold g; rw [List.getD_eq_getElem?_getD, List.getElem?_eq_getElem hi]; rfl
theorem valRow {w : World} {B g1 n c : Nat} {vs : List Val} (h : w.ownsRow B 26 3 (.slice (some ⟨g1, 0, none⟩) n c) n (flatV vs)) (i : Nat) (hi : i < vs.length) (e : Val) (he : g vs i = e) :
  w.cell? ⟨g1, i * 3, none⟩ = some (.int .i64 e.1) ∧ w.cell? ⟨g1, i * 3 + 1, none⟩ = some (.int .u64 e.2.1) ∧ w.cell? ⟨g1, i * 3 + 2, none⟩ = some (.string e.2.2) := by
 have hget := fun j hj => flatV_get vs i j e (he ▸ g_get' vs i hi) hj
 have hc := fun (j : Nat) (u : Value) (hj : (flatV vs)[3 * i + j]? = some u) => h.cells (g := g1) rfl (3 * i + j) u hj
 have e3 : i * 3 = 3 * i := by omega
 refine ⟨?_, ?_, ?_⟩
 · have := hc 0 _ (by rw [hget 0 (by omega)]; rfl); rw [add_plain] at this; rw [e3]; exact this
 · have := hc 1 _ (by rw [hget 1 (by omega)]; rfl); rw [add_plain] at this; rw [e3]; exact this
 have := hc 2 _ (by rw [hget 2 (by omega)]; rfl); rw [add_plain] at this; rw [e3]; exact this
def flatB (bs : List Bool) : List Value := bs.map Value.bool
theorem boolRow {w : World} {B g1 n c : Nat} {bs : List Bool} (h : w.ownsRow B 4 1 (.slice (some ⟨g1, 0, none⟩) n c) n (flatB bs)) (i : Nat) (hi : i < bs.length) :
  w.cell? ⟨g1, i, none⟩ = some (.bool (mk bs i)) ∧ w.frozen? ⟨g1, i, none⟩ = false := by
 constructor
 ·
  have hc := h.cells (g := g1) rfl i (.bool (mk bs i)) (by
   unfold flatB mk; rw [List.getElem?_map, List.getD_eq_getElem?_getD, List.getElem?_eq_getElem hi]; rfl)
  rw [add_plain] at hc; exact hc
 exact h.frozenAt i
end Go.Proofs.YtmbacdkpgfbclaaGreatDoor
