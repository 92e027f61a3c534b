/- What a queue holds in any order of pushes and pops, and rows of values and marks; plain but for the rows; conditions: none. -/
import Derived.Test.YtoanmnhkhookfaaGreatDoorOrder
import Derived.Test.YtoanmnhkhookfaaGreatDoorQueue
namespace Go.Proofs.YtoanmnhkhookfaaGreatDoor
open Go.RowKit Go.Proofs.YtoanmnhkhookfaaGreatDoorW.PrintWords Go.Proofs.YtoanmnhkhookfaaGreatDoorW.PrintLast Heap
set_option linter.unusedVariables false

theorem g_append_lt {α : Type} [Inhabited α] (L : List α) (x : α) {i : Nat} (h : i < L.length) : g (L ++ [x]) i = g L i := by
  unfold g
  rw [List.getD_eq_getElem?_getD, List.getD_eq_getElem?_getD, List.getElem?_append_left h]
theorem g_append_end {α : Type} [Inhabited α] (L : List α) (x : α) : g (L ++ [x]) L.length = x := by
  unfold g
  rw [List.getD_eq_getElem?_getD, List.getElem?_append_right (Nat.le_refl _), Nat.sub_self]
  rfl
/-- The marks: whether a number is still in. -/
def mk (bs : List Bool) (i : Nat) : Bool := bs.getD i false
theorem mk_append_lt (bs : List Bool) (x : Bool) {i : Nat} (h : i < bs.length) : mk (bs ++ [x]) i = mk bs i := by
  unfold mk
  rw [List.getD_eq_getElem?_getD, List.getD_eq_getElem?_getD, List.getElem?_append_left h]
theorem mk_append_end (bs : List Bool) (x : Bool) : mk (bs ++ [x]) bs.length = x := by
  unfold mk
  rw [List.getD_eq_getElem?_getD, List.getElem?_append_right (Nat.le_refl _), Nat.sub_self]
  rfl
theorem mk_set_ne (bs : List Bool) {i k : Nat} (h : i ≠ k) (x : Bool) : mk (bs.set i x) k = mk bs k := by
  unfold mk
  rw [List.getD_eq_getElem?_getD, List.getElem?_set_ne h, ← List.getD_eq_getElem?_getD]
theorem mk_set_eq (bs : List Bool) {i : Nat} (h : i < bs.length) (x : Bool) : mk (bs.set i x) i = x := by
  unfold mk
  rw [List.getD_eq_getElem?_getD, List.getElem?_set_self h]
  rfl
structure InvL (vs : List Val) (bs : List Bool) (L : List Ent) : Prop where
  len : bs.length = vs.length
  heap : Hp ltE L L.length
  inn : ∀ e ∈ L, ∃ i, i < vs.length ∧ mk bs i = true ∧ e = entOf (g vs i) i
  all : ∀ i, i < vs.length → mk bs i = true → entOf (g vs i) i ∈ L
  nodup : L.Nodup
theorem inv_nil : InvL [] [] [] := ⟨rfl, fun i _ h => absurd h (Nat.not_lt_zero _), fun e he => (by cases he), fun i hi => absurd hi (Nat.not_lt_zero _), List.nodup_nil⟩
theorem entOf_id (v : Val) (i : Nat) : (entOf v i).2.2.2 = (i : Int) := rfl
theorem entOf_inj {v v' : Val} {i j : Nat} (h : entOf v i = entOf v' j) : i = j := by
  have h2 := congrArg (fun e : Ent => e.2.2.2) h
  have h3 : (i : Int) = (j : Int) := h2
  omega
theorem inv_push {vs : List Val} {bs : List Bool} {L : List Ent} (h : InvL vs bs L) (x : Val) : InvL (vs ++ [x]) (bs ++ [true]) (push ltE L (entOf x vs.length)) := by
  have hp := push_perm ltE L (entOf x vs.length)
  refine ⟨by rw [List.length_append, List.length_append, h.len]; rfl, push_heap ltE_weak _ h.heap, fun e he => ?_, fun i hi hb => ?_, ?_⟩
  · rcases List.mem_cons.mp (hp.subset he) with rfl | he'
    · exact ⟨vs.length, by rw [List.length_append]; exact Nat.lt_succ_self _, by rw [← h.len]; exact mk_append_end bs true, by rw [g_append_end]⟩
    · obtain ⟨i, h1, h2, h3⟩ := h.inn e he'
      exact ⟨i, by rw [List.length_append]; exact Nat.lt_succ_of_lt h1, by rw [mk_append_lt bs true (by rw [h.len]; exact h1)]; exact h2, by rw [g_append_lt vs x h1]; exact h3⟩
  · refine hp.symm.subset ?_
    rw [List.length_append] at hi
    have hi' : i < vs.length + 1 := hi
    rcases Nat.lt_or_ge i vs.length with h1 | h1
    · rw [mk_append_lt bs true (by rw [h.len]; exact h1)] at hb
      rw [g_append_lt vs x h1]
      exact List.mem_cons_of_mem _ (h.all i h1 hb)
    · obtain rfl : i = vs.length := by omega
      rw [g_append_end]
      exact List.mem_cons_self ..
  · refine hp.nodup_iff.mpr (List.nodup_cons.mpr ⟨fun hm => ?_, h.nodup⟩)
    obtain ⟨i, h1, _, h3⟩ := h.inn _ hm
    have := entOf_inj h3
    omega
def Ahead (vs : List Val) (bs : List Bool) (i : Nat) : Prop := ∀ k, k < vs.length → mk bs k = true → ordV (g vs i) (g vs k) ≤ 0 ∧ (ordV (g vs i) (g vs k) = 0 → i ≤ k)
theorem inv_pop {vs : List Val} {bs : List Bool} {L : List Ent} (h : InvL vs bs L) (hne : L ≠ []) :
    ∃ i, i < vs.length ∧ mk bs i = true ∧ g L 0 = entOf (g vs i) i ∧ InvL vs (bs.set i false) (pop ltE L) ∧ Ahead vs (bs.set i false) i := by
  have hp := pop_perm ltE L hne
  have hl : 0 < L.length := by
    rcases Nat.eq_zero_or_pos L.length with h0 | h0
    · exact absurd (List.eq_nil_of_length_eq_zero h0) hne
    · exact h0
  obtain ⟨i, h1, h2, h3⟩ := h.inn _ (g_mem L 0 hl)
  have hnd := hp.nodup_iff.mp h.nodup
  obtain ⟨hn0, hnd'⟩ := List.nodup_cons.mp hnd
  have hib : i < bs.length := by rw [h.len]; exact h1
  have hother : ∀ e ∈ pop ltE L, ∃ k, k < vs.length ∧ mk bs k = true ∧ e = entOf (g vs k) k ∧ k ≠ i := fun e he => by
    obtain ⟨k, k1, k2, k3⟩ := h.inn e (hp.symm.subset (List.mem_cons_of_mem _ he))
    refine ⟨k, k1, k2, k3, fun e2 => hn0 ?_⟩
    rw [h3, ← e2, ← k3]
    exact he
  refine ⟨i, h1, h2, h3, ⟨by rw [List.length_set]; exact h.len, pop_heap ltE_weak h.heap, fun e he => ?_, fun k hk hb => ?_, hnd'⟩, fun k hk hb => ?_⟩
  · obtain ⟨k, k1, k2, k3, k4⟩ := hother e he
    exact ⟨k, k1, by rw [mk_set_ne bs (Ne.symm k4)]; exact k2, k3⟩
  · by_cases e : i = k
    · subst e
      rw [mk_set_eq bs hib] at hb
      cases hb
    · rw [mk_set_ne bs e] at hb
      have hm := hp.subset (h.all k hk hb)
      rcases List.mem_cons.mp hm with h4 | h4
      · rw [h3] at h4
        exact absurd (entOf_inj h4).symm e
      · exact h4
  · by_cases e : i = k
    · subst e
      rw [mk_set_eq bs hib] at hb
      cases hb
    · rw [mk_set_ne bs e] at hb
      have hm := hp.subset (h.all k hk hb)
      have hm2 : entOf (g vs k) k ∈ pop ltE L := by
        rcases List.mem_cons.mp hm with h4 | h4
        · rw [h3] at h4
          exact absurd (entOf_inj h4).symm e
        · exact h4
      have hlt := pop_least ltE_weak h.heap _ hm2
      rw [h3, ltE_false] at hlt
      have h5 : ¬ (ordV (g vs k) (g vs i) < 0 ∨ ordV (g vs k) (g vs i) = 0 ∧ (k : Int) < (i : Int)) := hlt
      have h6 : ordV (g vs k) (g vs i) = -ordV (g vs i) (g vs k) := ordV_anti _ _
      constructor
      · by_cases c : ordV (g vs k) (g vs i) < 0
        · exact absurd (.inl c) h5
        · omega
      · intro c
        by_cases c2 : (k : Int) < (i : Int)
        · exact absurd (.inr ⟨by omega, c2⟩) h5
        · omega
/-! ### rows of values, of marks -/
def encV (v : Val) : List Value := [.int .i64 v.1, .int .u64 v.2.1, .string v.2.2]
def flatV (vs : List Val) : List Value := vs.flatMap encV
theorem flatV_append (a b : List Val) : flatV (a ++ b) = flatV a ++ flatV b := List.flatMap_append
theorem flatV_get : ∀ (L : List Val) (i j : Nat) (e : Val), L[i]? = some e → j < 3 → (flatV L)[3 * i + j]? = (encV e)[j]?
  | [], _, _, _, h, _ => by cases h
  | x :: L, 0, j, e, h, hj => by
    cases h
    show (encV x ++ flatV L)[3 * 0 + j]? = _
    rw [Nat.mul_zero, Nat.zero_add, List.getElem?_append_left (by exact hj)]
  | x :: L, i + 1, j, e, h, hj => by
    show (encV x ++ flatV L)[3 * (i + 1) + j]? = _
    have h2 : (encV x).length = 3 := rfl
    rw [List.getElem?_append_right (by omega), h2, show 3 * (i + 1) + j - 3 = 3 * i + j by omega]
    exact flatV_get L i j e h hj
theorem g_get' {α : Type} [Inhabited α] (L : List α) (i : Nat) (hi : i < L.length) : L[i]? = some (g L i) := by
  unfold g
  rw [List.getD_eq_getElem?_getD, List.getElem?_eq_getElem hi]
  rfl
theorem valRow {w : World} {B g1 n c : Nat} {vs : List Val} (h : w.ownsRow B 29 3 (.slice (some ⟨g1, 0, none⟩) n c) n (flatV vs)) (i : Nat) (hi : i < vs.length) (e : Val) (he : g vs i = e) :
    w.cell? ⟨g1, i * 3, none⟩ = some (.int .i64 e.1) ∧ w.cell? ⟨g1, i * 3 + 1, none⟩ = some (.int .u64 e.2.1) ∧ w.cell? ⟨g1, i * 3 + 2, none⟩ = some (.string e.2.2) := by
  have hget := fun j hj => flatV_get vs i j e (he ▸ g_get' vs i hi) hj
  have hc := fun (j : Nat) (u : Value) (hj : (flatV vs)[3 * i + j]? = some u) => h.cells (g := g1) rfl (3 * i + j) u hj
  have e3 : i * 3 = 3 * i := by omega
  refine ⟨?_, ?_, ?_⟩
  · have := hc 0 _ (by rw [hget 0 (by omega)]; rfl)
    rw [add_plain] at this; rw [e3]; exact this
  · have := hc 1 _ (by rw [hget 1 (by omega)]; rfl)
    rw [add_plain] at this; rw [e3]; exact this
  · have := hc 2 _ (by rw [hget 2 (by omega)]; rfl)
    rw [add_plain] at this; rw [e3]; exact this
def flatB (bs : List Bool) : List Value := bs.map Value.bool
theorem boolRow {w : World} {B g1 n c : Nat} {bs : List Bool} (h : w.ownsRow B 4 1 (.slice (some ⟨g1, 0, none⟩) n c) n (flatB bs)) (i : Nat) (hi : i < bs.length) :
    w.cell? ⟨g1, i, none⟩ = some (.bool (mk bs i)) ∧ w.frozen? ⟨g1, i, none⟩ = false := by
  constructor
  · have hc := h.cells (g := g1) rfl i (.bool (mk bs i)) (by
      unfold flatB mk
      rw [List.getElem?_map, List.getD_eq_getElem?_getD, List.getElem?_eq_getElem hi]
      rfl)
    rw [add_plain] at hc
    exact hc
  · exact h.frozenAt i
theorem boolStore {w : World} {B g1 n c : Nat} {bs : List Bool} (h : w.ownsRow B 4 1 (.slice (some ⟨g1, 0, none⟩) n c) n (flatB bs)) (i : Nat) (x : Bool) :
    (w.setCell ⟨g1, i, none⟩ (.bool x)).ownsRow B 4 1 (.slice (some ⟨g1, 0, none⟩) n c) n (flatB (bs.set i x)) ∧ w.grownBy (w.setCell ⟨g1, i, none⟩ (.bool x)) (some g1) := by
  have hs := h.stored i (.bool x)
  have he : (flatB bs).set i (.bool x) = flatB (bs.set i x) := by simp [flatB, List.map_set]
  rw [he] at hs
  exact hs
/-- A block of another type stays as it was. -/
theorem blk_turned {base b T k t : Nat} {cs cs' : Array Value} {v v' : Value} {L : List Ent} {w w' : World} (hH : HeapAt base b T cs v L w) (hT : Turned base b v v' w w') (hk : w.heap[k]? = some (.cells cs' t (0, 0))) (h1 : 102 ≠ t) (h2 : t ≠ T) : w'.heap[k]? = some (.cells cs' t (0, 0)) :=
  (hT.keep k (blk_lt hk) (fun e => by
    subst e
    rw [hH.blk] at hk
    cases hk
    exact h2 rfl) (own_ne hH.row hk h1)).trans hk
end Go.Proofs.YtoanmnhkhookfaaGreatDoor
