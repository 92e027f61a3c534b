/- The heap's answers at given values, by rounds (for the kernel's reckoning); conditions: none. -/
import Derived.Test.YtoanmnhkhookfaaGreatDoorOrder
namespace Go.Proofs.YtoanmnhkhookfaaGreatDoor
open Heap
set_option linter.unusedVariables false
def siftUpK (lt : Ent → Ent → Bool) : Nat → List Ent → Nat → List Ent
  | 0, L, _ => L
  | k + 1, L, i => if i = 0 then L else if lt (g L i) (g L ((i - 1) / 2)) = true then siftUpK lt k (swp L i ((i - 1) / 2)) ((i - 1) / 2) else L
def siftDownK (lt : Ent → Ent → Bool) : Nat → List Ent → Nat → Nat → List Ent
  | 0, L, _, _ => L
  | k + 1, L, n, i => if n ≤ 2 * i + 1 then L else if lt (g L (child lt L n i)) (g L i) = true then siftDownK lt k (swp L (child lt L n i) i) n (child lt L n i) else L
theorem siftUpK_eq (lt : Ent → Ent → Bool) : ∀ (k i : Nat) (L : List Ent), i < k → siftUpK lt k L i = siftUp lt L i := by
  intro k
  induction k with
  | zero => intro i L h; omega
  | succ k ih =>
    intro i L h
    unfold siftUpK siftUp
    by_cases h0 : i = 0
    · rw [if_pos h0, dif_pos h0]
    · rw [if_neg h0, dif_neg h0, ih _ _ (by omega)]
theorem siftDownK_eq (lt : Ent → Ent → Bool) (n : Nat) : ∀ (k i : Nat) (L : List Ent), n - i < k → siftDownK lt k L n i = siftDown lt L n i := by
  intro k
  induction k with
  | zero => intro i L h; omega
  | succ k ih =>
    intro i L h
    unfold siftDownK siftDown
    by_cases h0 : n ≤ 2 * i + 1
    · rw [if_pos h0, dif_pos h0]
    · have := child_of lt L n i (by omega)
      rw [if_neg h0, dif_neg h0, ih _ _ (by omega)]
def heapOfK (lt : Ent → Ent → Bool) (k : Nat) (vs : List Val) : Nat → List Ent
  | 0 => []
  | m + 1 => siftUpK lt k (heapOfK lt k vs m ++ [entOf (g vs m) m]) (heapOfK lt k vs m).length
def popIdsK (lt : Ent → Ent → Bool) (k : Nat) : Nat → List Ent → List Int
  | 0, _ => []
  | j + 1, L => (g L 0).2.2.2 :: popIdsK lt k j (siftDownK lt k ((L.set 0 (g L (L.length - 1))).take (L.length - 1)) (L.length - 1) 0)
theorem heapOfK_eq (lt : Ent → Ent → Bool) (k : Nat) (vs : List Val) : ∀ m, m ≤ k → heapOfK lt k vs m = heapOf lt vs m
  | 0, _ => rfl
  | m + 1, h => by
    rw [heapOfK, heapOfK_eq lt k vs m (by omega), siftUpK_eq lt _ _ _ (by rw [heapOf_length]; omega)]
    rfl
theorem popIdsK_eq (lt : Ent → Ent → Bool) (k : Nat) : ∀ (j : Nat) (L : List Ent), L.length ≤ k → popIdsK lt k j L = popIds lt j L
  | 0, _, _ => rfl
  | j + 1, L, h => by
    rw [popIdsK]
    by_cases h0 : L.length = 0
    · have : L = [] := List.length_eq_zero_iff.mp h0
      subst this
      have e : siftDownK lt k (([] : List Ent).set 0 (g [] (0 - 1)) |>.take (0 - 1)) (0 - 1) 0 = pop lt [] := by
        show siftDownK lt k [] 0 0 = siftDown lt [] 0 0
        cases k with
        | zero => unfold siftDownK siftDown; rw [dif_pos (by omega)]
        | succ k => rw [siftDownK_eq lt 0 (k + 1) 0 [] (by omega)]
      rw [show ([] : List Ent).length = 0 from rfl, e, popIdsK_eq lt k j _ (by rw [pop_length]; simp)]
      rfl
    · rw [siftDownK_eq lt _ _ _ _ (by omega)]
      rw [popIdsK_eq lt k j _ (by have := pop_length lt L; unfold pop at this; rw [this]; omega)]
      rfl
theorem topIds_at (lt : Ent → Ent → Bool) (k : Nat) (vs : List Val) (j : Int) (h : vs.length ≤ k) : topIds lt vs j = popIdsK lt k (min j.toNat vs.length) (heapOfK lt k vs vs.length) := by
  unfold topIds
  rw [heapOfK_eq lt k vs _ h, popIdsK_eq lt k _ _ (by rw [heapOf_length]; exact h)]
/-- One call answers once. -/
theorem same3 {α β γ : Type} {o : Option (α × β × γ)} {a a' : α} {b b' : β} {c c' : γ} (h : o = some (a, b, c)) (h' : o = some (a', b', c')) : a = a' ∧ b = b' ∧ c = c' := by
  rw [h] at h'
  cases h'
  exact ⟨rfl, rfl, rfl⟩
end Go.Proofs.YtoanmnhkhookfaaGreatDoor
