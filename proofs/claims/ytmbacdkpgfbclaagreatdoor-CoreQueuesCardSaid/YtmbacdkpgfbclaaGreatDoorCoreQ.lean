/- The queue's heap of plain values beside Sort's heap of the values themselves: they go alike; plain; conditions: none. -/
import Derived.Test.YtmbacdkpgfbclaaGreatDoorOrder
import Derived.Test.YtmbacdkpgfbclaaGreatDoorQueued
import Derived.Test.YtmbacdkpgfbclaaGreatDoorTop
namespace Go.Proofs.YtmbacdkpgfbclaaGreatDoor
open Go.RowKit Go.Proofs.YtmbacdkpgfbclaaGreatDoorW.PrintWords Go.Proofs.YtmbacdkpgfbclaaGreatDoorW.PrintLast Heap
set_option linter.unusedVariables false

theorem g_append_lt {α : Type} [Inhabited α] (L : List α) (x : α) {i : Nat} (h : i < L.length) : g (L ++ [x]) i = g L i := by
 unfold g; rw [List.getD_eq_getElem?_getD, List.getD_eq_getElem?_getD, List.getElem?_append_left h]
theorem g_append_end {α : Type} [Inhabited α] (L : List α) (x : α) : g (L ++ [x]) L.length = x := by
 unfold g; rw [List.getD_eq_getElem?_getD, List.getElem?_append_right (Nat.le_refl _), Nat.sub_self]; rfl
/-- The marks: whether a number is still in. -/
def mk (bs : List Bool) (i : Nat) : Bool := bs.getD i false
theorem mk_append_lt (bs : List Bool) (x : Bool) {i : Nat} (h : i < bs.length) : mk (bs ++ [x]) i = mk bs i := by
 unfold mk; rw [List.getD_eq_getElem?_getD, List.getD_eq_getElem?_getD, List.getElem?_append_left h]
theorem mk_append_end (bs : List Bool) (x : Bool) : mk (bs ++ [x]) bs.length = x := by
 unfold mk; rw [List.getD_eq_getElem?_getD, List.getElem?_append_right (Nat.le_refl _), Nat.sub_self]; rfl
structure InvL (vs : List Val) (bs : List Bool) (L : List Ent) : Prop where
 len : bs.length = vs.length
 heap : Hp ltE L L.length
 inn : ∀ e ∈ L, ∃ i, i < vs.length ∧ mk bs i = true ∧ e = entOf (g vs i) i
 all : ∀ i, i < vs.length → mk bs i = true → entOf (g vs i) i ∈ L
 nodup : L.Nodup
theorem entOf_inj {v v' : Val} {i j : Nat} (h : entOf v i = entOf v' j) : i = j := by
 have h2 := congrArg (fun e : Ent => e.2.2.2) h; have h3 : (i : Int) = (j : Int) := h2; omega
theorem inv_push {vs : List Val} {bs : List Bool} {L : List Ent} (h : InvL vs bs L) (x : Val) : InvL (vs ++ [x]) (bs ++ [true]) (push ltE L (entOf x vs.length)) := by
 have hp := push_perm ltE L (entOf x vs.length); refine ⟨by rw [List.length_append, List.length_append, h.len]; rfl, push_heap ltE_weak _ h.heap, fun e he => ?_, fun i hi hb => ?_, ?_⟩
 ·
  rcases List.mem_cons.mp (hp.subset he) with rfl | he'
  · exact ⟨vs.length, by rw [List.length_append]; exact Nat.lt_succ_self _, by rw [← h.len]; exact mk_append_end bs true, by rw [g_append_end]⟩
  obtain ⟨i, h1, h2, h3⟩ := h.inn e he'; exact ⟨i, by rw [List.length_append]; exact Nat.lt_succ_of_lt h1, by rw [mk_append_lt bs true (by rw [h.len]; exact h1)]; exact h2, by rw [g_append_lt vs x h1]; exact h3⟩
 ·
  refine hp.symm.subset ?_; rw [List.length_append] at hi; have hi' : i < vs.length + 1 := hi; rcases Nat.lt_or_ge i vs.length with h1 | h1
  · rw [mk_append_lt bs true (by rw [h.len]; exact h1)] at hb; rw [g_append_lt vs x h1]; exact List.mem_cons_of_mem _ (h.all i h1 hb)
  obtain rfl : i = vs.length := by omega
  rw [g_append_end]; exact List.mem_cons_self ..
 refine hp.nodup_iff.mpr (List.nodup_cons.mpr ⟨fun hm => ?_, h.nodup⟩); obtain ⟨i, h1, _, h3⟩ := h.inn _ hm; have := entOf_inj h3; omega
def Ahead (vs : List Val) (bs : List Bool) (i : Nat) : Prop := ∀ k, k < vs.length → mk bs k = true → ordV (g vs i) (g vs k) ≤ 0 ∧ (ordV (g vs i) (g vs k) = 0 → i ≤ k)
/-! ### rows of values, of marks -/
def encV (v : Val) : List Value := [.int .i64 v.1, .int .u64 v.2.1, .string v.2.2]
def flatV (vs : List Val) : List Value := vs.flatMap encV
theorem flatV_get : ∀ (L : List Val) (i j : Nat) (e : Val), L[i]? = some e → j < 3 → (flatV L)[3 * i + j]? = (encV e)[j]?
 | [], _, _, _, h, _ => by cases h
 | x :: L, 0, j, e, h, hj => by
  cases h
  show (encV x ++ flatV L)[3 * 0 + j]? = _
  rw [Nat.mul_zero, Nat.zero_add, List.getElem?_append_left (by exact hj)]
 | x :: L, i + 1, j, e, h, hj => by
  show (encV x ++ flatV L)[3 * (i + 1) + j]? = _
  have h2 : (encV x).length = 3 := rfl
  rw [List.getElem?_append_right (by omega), h2, show 3 * (i + 1) + j - 3 = 3 * i + j by omega]
  exact flatV_get L i j e h hj
theorem g_get' {α : Type} [Inhabited α] (L : List α) (i : Nat) (hi : i < L.length) : L[i]? = some (g L i) := by
 unfold g; rw [List.getD_eq_getElem?_getD, List.getElem?_eq_getElem hi]; rfl
theorem valRow {w : World} {B g1 n c : Nat} {vs : List Val} (h : w.ownsRow B 26 3 (.slice (some ⟨g1, 0, none⟩) n c) n (flatV vs)) (i : Nat) (hi : i < vs.length) (e : Val) (he : g vs i = e) :
  w.cell? ⟨g1, i * 3, none⟩ = some (.int .i64 e.1) ∧ w.cell? ⟨g1, i * 3 + 1, none⟩ = some (.int .u64 e.2.1) ∧ w.cell? ⟨g1, i * 3 + 2, none⟩ = some (.string e.2.2) := by
 have hget := fun j hj => flatV_get vs i j e (he ▸ g_get' vs i hi) hj
 have hc := fun (j : Nat) (u : Value) (hj : (flatV vs)[3 * i + j]? = some u) => h.cells (g := g1) rfl (3 * i + j) u hj
 have e3 : i * 3 = 3 * i := by omega
 refine ⟨?_, ?_, ?_⟩
 · have := hc 0 _ (by rw [hget 0 (by omega)]; rfl); rw [add_plain] at this; rw [e3]; exact this
 · have := hc 1 _ (by rw [hget 1 (by omega)]; rfl); rw [add_plain] at this; rw [e3]; exact this
 have := hc 2 _ (by rw [hget 2 (by omega)]; rfl); rw [add_plain] at this; rw [e3]; exact this
def flatB (bs : List Bool) : List Value := bs.map Value.bool
theorem boolRow {w : World} {B g1 n c : Nat} {bs : List Bool} (h : w.ownsRow B 4 1 (.slice (some ⟨g1, 0, none⟩) n c) n (flatB bs)) (i : Nat) (hi : i < bs.length) :
  w.cell? ⟨g1, i, none⟩ = some (.bool (mk bs i)) ∧ w.frozen? ⟨g1, i, none⟩ = false := by
 constructor
 ·
  have hc := h.cells (g := g1) rfl i (.bool (mk bs i)) (by
   unfold flatB mk; rw [List.getElem?_map, List.getD_eq_getElem?_getD, List.getElem?_eq_getElem hi]; rfl)
  rw [add_plain] at hc; exact hc
 exact h.frozenAt i
theorem boolStore {w : World} {B g1 n c : Nat} {bs : List Bool} (h : w.ownsRow B 4 1 (.slice (some ⟨g1, 0, none⟩) n c) n (flatB bs)) (i : Nat) (x : Bool) :
  (w.setCell ⟨g1, i, none⟩ (.bool x)).ownsRow B 4 1 (.slice (some ⟨g1, 0, none⟩) n c) n (flatB (bs.set i x)) ∧ w.grownBy (w.setCell ⟨g1, i, none⟩ (.bool x)) (some g1) := by
 have hs := h.stored i (.bool x); have he : (flatB bs).set i (.bool x) = flatB (bs.set i x) := by simp [flatB, List.map_set]
 rw [he] at hs; exact hs
end Go.Proofs.YtmbacdkpgfbclaaGreatDoor
namespace Go.Proofs.YtmbacdkpgfbclaaGreatDoor
open Heap
set_option linter.unusedVariables false

/-- What comes out, whole. -/
def popEnts (lt : Ent → Ent → Bool) : Nat → List Ent → List Ent
 | 0, _ => []
 | j + 1, L => g L 0 :: popEnts lt j (pop lt L)
theorem popIds_ents (lt : Ent → Ent → Bool) : ∀ (j : Nat) (L : List Ent), popIds lt j L = (popEnts lt j L).map (·.2.2.2)
 | 0, _ => rfl
 | j + 1, L => by
  show (g L 0).2.2.2 :: popIds lt j (pop lt L) = _
  rw [popIds_ents lt j]
  rfl
theorem popEnts_perm (lt : Ent → Ent → Bool) : ∀ (j : Nat) (L : List Ent), L.length = j → (popEnts lt j L).Perm L
 | 0, L, h => by
  rw [List.eq_nil_of_length_eq_zero h]
  exact List.Perm.refl _
 | j + 1, L, h => by
  have hne : L ≠ [] := fun e => by rw [e] at h; cases h
  have ih := popEnts_perm lt j (pop lt L) (by rw [pop_length]; omega)
  exact (List.Perm.cons _ ih).trans (pop_perm lt L hne).symm
/-- One behind the other: nothing comes ahead of what came before it. -/
def Asc (lt : Ent → Ent → Bool) : List Ent → Prop
 | [] => True
 | x :: xs => (∀ y ∈ xs, lt y x = false) ∧ Asc lt xs
theorem popEnts_asc {lt : Ent → Ent → Bool} (hw : Weak lt) : ∀ (j : Nat) (L : List Ent), L.length = j → Hp lt L L.length → Asc lt (popEnts lt j L)
 | 0, _, _, _ => trivial
 | j + 1, L, h, hp => by
  have hl : (pop lt L).length = j := by rw [pop_length]; omega
  refine ⟨fun y hy => ?_, popEnts_asc hw j (pop lt L) hl (pop_heap hw hp)⟩
  have hy2 : y ∈ pop lt L := (popEnts_perm lt j _ hl).subset hy
  exact pop_least hw hp y hy2
theorem popIds_take (lt : Ent → Ent → Bool) : ∀ (j n : Nat) (L : List Ent), j ≤ n → popIds lt j L = (popIds lt n L).take j
 | 0, _, _, _ => rfl
 | j + 1, 0, _, h => by omega
 | j + 1, n + 1, L, h => by
  show (g L 0).2.2.2 :: popIds lt j (pop lt L) = ((g L 0).2.2.2 :: popIds lt n (pop lt L)).take (j + 1)
  rw [List.take_succ_cons, popIds_take lt j n _ (by omega)]
/-- The entries of a row of values. -/
def entsOf (vs : List Val) : Nat → List Ent
 | 0 => []
 | m + 1 => entsOf vs m ++ [entOf (g vs m) m]
theorem heapOf_perm (lt : Ent → Ent → Bool) (vs : List Val) : ∀ m, (heapOf lt vs m).Perm (entsOf vs m)
 | 0 => List.Perm.refl _
 | m + 1 => (push_perm lt _ _).trans (((List.Perm.cons _ (heapOf_perm lt vs m))).trans (List.perm_append_comm (l₁ := [entOf (g vs m) m])))
theorem heapOf_heap {lt : Ent → Ent → Bool} (hw : Weak lt) (vs : List Val) : ∀ m, Hp lt (heapOf lt vs m) (heapOf lt vs m).length
 | 0 => by intro i h1 h2; exact absurd h2 (Nat.not_lt_zero _)
 | m + 1 => push_heap hw _ (heapOf_heap hw vs m)
theorem mem_entsOf (vs : List Val) (e : Ent) : ∀ m, e ∈ entsOf vs m ↔ ∃ i, i < m ∧ e = entOf (g vs i) i
 | 0 => by
  constructor
  ·
   intro h; cases h
  ·
   rintro ⟨i, hi, _⟩; omega
 | m + 1 => by
  rw [entsOf, List.mem_append, List.mem_singleton, mem_entsOf vs e m]
  constructor
  ·
   rintro (⟨i, h1, h2⟩ | h)
   ·
    exact ⟨i, by omega, h2⟩
   ·
    exact ⟨m, by omega, h⟩
  ·
   rintro ⟨i, h1, h2⟩
   rcases Nat.lt_or_ge i m with h | h
   ·
    exact .inl ⟨i, h, h2⟩
   ·
    obtain rfl : i = m := by omega
    exact .inr h2
theorem entsOf_ids (vs : List Val) : ∀ m, (entsOf vs m).map (·.2.2.2) = List.map (α := Nat) (fun i => (i : Int)) (List.range m)
 | 0 => rfl
 | m + 1 => by
  rw [entsOf, List.map_append, entsOf_ids vs m, List.range_succ, List.map_append]
  rfl
/-- The entries in the order in which they come out. -/
def outE (vs : List Val) : List Ent := popEnts ltE vs.length (heapOf ltE vs vs.length)
theorem outE_perm (vs : List Val) : (outE vs).Perm (entsOf vs vs.length) := (popEnts_perm ltE _ _ (heapOf_length ltE vs _)).trans (heapOf_perm ltE vs _)
theorem outE_asc (vs : List Val) : Asc ltE (outE vs) := popEnts_asc ltE_weak _ _ (heapOf_length ltE vs _) (heapOf_heap ltE_weak vs _)
theorem topIds_outE (vs : List Val) (k : Int) : topIds ltE vs k = ((outE vs).map (·.2.2.2)).take (min k.toNat vs.length) := by
 unfold topIds outE; rw [popIds_take ltE _ vs.length _ (Nat.min_le_right _ _), popIds_ents]
theorem outE_length (vs : List Val) : (outE vs).length = vs.length := by
 have h := (outE_perm vs).length_eq; have h2 : (entsOf vs vs.length).length = vs.length := by
  have := congrArg List.length (entsOf_ids vs vs.length); simpa using this
 rw [h, h2]
/-- Each number once. -/
theorem outE_nodup (vs : List Val) : ((outE vs).map (·.2.2.2)).Nodup := by
 have hp := (outE_perm vs).map (·.2.2.2); rw [entsOf_ids] at hp; refine (hp.nodup_iff).mpr ?_; have hr : (List.range vs.length).Nodup := List.nodup_range; unfold List.Nodup at hr ⊢; rw [List.pairwise_map]; exact hr.imp fun h e => h (by have e2 : ((_ : Nat) : Int) = ((_ : Nat) : Int) := e; omega)
/-- Which value stands at a number. -/
theorem outE_at (vs : List Val) {e : Ent} (h : e ∈ outE vs) : ∃ i, i < vs.length ∧ e = entOf (g vs i) i := (mem_entsOf vs e _).mp ((outE_perm vs).subset h)
end Go.Proofs.YtmbacdkpgfbclaaGreatDoor
namespace Go.Proofs.YtmbacdkpgfbclaaGreatDoor
open Heap
set_option linter.unusedVariables false
set_option linter.unusedSimpArgs false

section
variable {α β : Type} [Inhabited α] [Inhabited β]
theorem g_map (f : α → β) (hf : f default = default) (L : List α) (i : Nat) : g (L.map f) i = f (g L i) := by
 unfold g; rw [List.getD_eq_getElem?_getD, List.getD_eq_getElem?_getD, List.getElem?_map]; cases L[i]? with
 | none => exact hf.symm
 | some x => rfl
variable (f : α → α) (hf : f default = default) (lt : α → α → Bool) (hlt : ∀ x y, lt (f x) (f y) = lt x y)
include hf
theorem swp_map (L : List α) (i j : Nat) : swp (L.map f) i j = (swp L i j).map f := by
 unfold swp; rw [g_map f hf, g_map f hf, List.map_set, List.map_set]
include hlt
theorem siftUp_map : ∀ (i : Nat) (L : List α), siftUp lt (L.map f) i = (siftUp lt L i).map f := by
 intro i; induction i using Nat.strongRecOn with
 | _ i ih =>
 intro L; conv => lhs; unfold siftUp
 conv => rhs; unfold siftUp
 by_cases h0 : i = 0
 · rw [dif_pos h0, dif_pos h0]
 rw [dif_neg h0, dif_neg h0, g_map f hf, g_map f hf, hlt]; by_cases c : lt (g L i) (g L ((i - 1) / 2)) = true
 · rw [if_pos c, if_pos c, swp_map f hf, ih _ (by omega)]
 rw [if_neg c, if_neg c]
theorem child_map (L : List α) (n i : Nat) : child lt (L.map f) n i = child lt L n i := by
 unfold child; rw [g_map f hf, g_map f hf, hlt]
theorem siftDown_map (n : Nat) : ∀ (d i : Nat) (L : List α), n - i = d → siftDown lt (L.map f) n i = (siftDown lt L n i).map f := by
 intro d; induction d using Nat.strongRecOn with
 | _ d ih =>
 intro i L hd; conv => lhs; unfold siftDown
 conv => rhs; unfold siftDown
 by_cases h0 : n ≤ 2 * i + 1
 · rw [dif_pos h0, dif_pos h0]
 have hc := child_of lt L n i (by omega); rw [dif_neg h0, dif_neg h0, child_map f hf lt hlt, g_map f hf, g_map f hf, hlt]; by_cases c : lt (g L (child lt L n i)) (g L i) = true
 · rw [if_pos c, if_pos c, swp_map f hf, ih _ (by omega) _ _ rfl]
 rw [if_neg c, if_neg c]
theorem push_map (L : List α) (x : α) : push lt (L.map f) (f x) = (push lt L x).map f := by
 unfold push; rw [List.length_map, ← siftUp_map f hf lt hlt, List.map_append]; rfl
theorem pop_map (L : List α) : pop lt (L.map f) = (pop lt L).map f := by
 unfold pop; rw [List.length_map, g_map f hf, ← siftDown_map f hf lt hlt _ _ _ _ rfl, List.map_take, List.map_set]
end
theorem popEnts_get (lt : Ent → Ent → Bool) : ∀ (n : Nat) (L : List Ent) (i : Nat), i < n → (popEnts lt n L)[i]? = some (g (popN lt i L) 0)
 | 0, _, _, h => absurd h (Nat.not_lt_zero _)
 | n + 1, L, 0, _ => rfl
 | n + 1, L, i + 1, h => popEnts_get lt n (pop lt L) i (by omega)
/-- A value as Plain answers it. -/
def plainV (v : Val) : Val := plainOf v.1 v.2.1 v.2.2
def plE (e : Ent) : Ent := ((plainV (valE e)).1, (plainV (valE e)).2.1, (plainV (valE e)).2.2, e.2.2.2)
theorem plE_of (v : Val) (i : Nat) : plE (entOf v i) = entOf (plainV v) i := rfl
theorem plainV_default : plainV default = default := rfl
theorem plE_default : plE default = default := rfl
theorem plainV_1 {v : Val} (h : v.1 = 1) : plainV v = (1, v.2.1, ⟨#[]⟩) := by unfold plainV plainOf; rw [if_pos h]
theorem plainV_2 {v : Val} (h : v.1 = 2) : plainV v = (2, 0, v.2.2) := by unfold plainV plainOf; rw [if_neg (by omega), if_pos h]
theorem plainV_3 {v : Val} (h : v.1 = 3) : plainV v = (3, v.2.1, v.2.2) := by unfold plainV plainOf; rw [if_neg (by omega), if_neg (by omega), if_pos h]
theorem plainV_0 {v : Val} (h1 : v.1 ≠ 1) (h2 : v.1 ≠ 2) (h3 : v.1 ≠ 3) : plainV v = (0, 0, ⟨#[]⟩) := by unfold plainV plainOf; rw [if_neg h1, if_neg h2, if_neg h3]
theorem plain_facts (v : Val) : numI (plainV v) = numI v ∧ ((plainV v).1 = 2 ↔ v.1 = 2) ∧ (v.1 = 2 → (plainV v).2.2 = v.2.2) := by
 by_cases c1 : v.1 = 1
 · rw [plainV_1 c1]; refine ⟨?_, ⟨fun h => absurd h (show ¬ ((1 : Int) = 2) by decide), fun h => by omega⟩, fun h => by omega⟩; unfold numI; rw [if_pos (.inl rfl), if_pos (.inl c1)]
 by_cases c2 : v.1 = 2
 · rw [plainV_2 c2]; refine ⟨?_, ⟨fun _ => c2, fun _ => rfl⟩, fun _ => rfl⟩; unfold numI; rw [if_neg (show ¬ ((2 : Int) = 1 ∨ (2 : Int) = 3) by decide), if_neg (by omega)]
 by_cases c3 : v.1 = 3
 · rw [plainV_3 c3]; refine ⟨?_, ⟨fun h => absurd h (show ¬ ((3 : Int) = 2) by decide), fun h => by omega⟩, fun h => by omega⟩; unfold numI; rw [if_pos (.inr rfl), if_pos (.inr c3)]
 rw [plainV_0 c1 c2 c3]; refine ⟨?_, ⟨fun h => absurd h (by decide), fun h => by omega⟩, fun h => by omega⟩; unfold numI; rw [if_neg (by decide), if_neg (by omega)]
theorem class_plain (v : Val) : classI (plainV v) = classI v := by
 obtain ⟨h1, h2, -⟩ := plain_facts v; unfold classI; rw [h1]; by_cases c : v.1 = 2
 · rw [if_pos (h2.2 c), if_pos c]
 rw [if_neg (fun h => c (h2.1 h)), if_neg c]
theorem class_two {v : Val} (h : classI v = 2) : v.1 = 2 := by
 unfold classI at h; by_cases c : v.1 = 2
 · exact c
 rw [if_neg c] at h; split at h <;> omega
theorem ordV_plain (a b : Val) : ordV (plainV a) (plainV b) = ordV a b := by
 unfold ordV; rw [class_plain, class_plain, (plain_facts a).1, (plain_facts b).1]; by_cases c1 : classI a < classI b
 · rw [if_pos c1, if_pos c1]
 rw [if_neg c1, if_neg c1]; by_cases c2 : classI a > classI b
 · rw [if_pos c2, if_pos c2]
 rw [if_neg c2, if_neg c2]; by_cases c3 : classI a = 2
 · rw [if_pos c3, if_pos c3, (plain_facts a).2.2 (class_two c3), (plain_facts b).2.2 (class_two (by omega))]
 rw [if_neg c3, if_neg c3]
theorem ltE_plain (x y : Ent) : ltE (plE x) (plE y) = ltE x y := by
 unfold ltE; have e : ordV (valE (plE x)) (valE (plE y)) = ordV (valE x) (valE y) := ordV_plain (valE x) (valE y); rw [e]; rfl
theorem heapOf_plain (vs : List Val) : ∀ m, heapOf ltE (vs.map plainV) m = (heapOf ltE vs m).map plE
 | 0 => rfl
 | m + 1 => by
  rw [heapOf, heapOf_plain vs m, g_map plainV plainV_default, ← plE_of, push_map plE plE_default ltE ltE_plain]
  rfl
theorem popN_plain : ∀ (j : Nat) (L : List Ent), popN ltE j (L.map plE) = (popN ltE j L).map plE
 | 0, _ => rfl
 | j + 1, L => by
  show popN ltE j (pop ltE (L.map plE)) = _
  rw [pop_map plE plE_default ltE ltE_plain, popN_plain j]
  rfl
/-- The number that comes out at place i. -/
def outId (vs : List Val) (i : Nat) : Nat := (g (outE vs) i).2.2.2.toNat
theorem out_at (vs : List Val) {i : Nat} (hi : i < vs.length) : outId vs i < vs.length ∧ g (outE vs) i = entOf (g vs (outId vs i)) (outId vs i) ∧ g (popN ltE i (heapOf ltE (vs.map plainV) vs.length)) 0 = entOf (plainV (g vs (outId vs i))) (outId vs i) := by
 have hl : i < (outE vs).length := by rw [outE_length]; exact hi
 obtain ⟨j, hj, he⟩ := outE_at vs (g_mem (outE vs) i hl); have hid : outId vs i = j := by unfold outId; rw [he]; exact Int.toNat_natCast j
 rw [hid]; refine ⟨hj, he, ?_⟩; rw [heapOf_plain, popN_plain, g_map plE plE_default, ← plE_of, ← he]; congr 1
 have h1 : (outE vs)[i]? = some (g (popN ltE i (heapOf ltE vs vs.length)) 0) := popEnts_get ltE vs.length _ i hi; have h2 := g_get' (outE vs) i hl; rw [h1] at h2; exact Option.some.inj h2
theorem out_ids (vs : List Val) : (outE vs).map (·.2.2.2) = (List.range vs.length).map fun i => ((outId vs i : Nat) : Int) := by
 apply List.ext_getElem?; intro i; rw [List.getElem?_map, List.getElem?_map]; by_cases hi : i < vs.length
 · rw [g_get' (outE vs) i (by rw [outE_length]; exact hi), List.getElem?_range hi]; obtain ⟨-, h, -⟩ := out_at vs hi; show some (g (outE vs) i).2.2.2 = some ((outId vs i : Nat) : Int); rw [h]; first | done | rfl
 rw [List.getElem?_eq_none (by rw [outE_length]; omega), List.getElem?_eq_none (by rw [List.length_range]; omega)]; first | done | rfl
theorem out_inj (vs : List Val) {i j : Nat} (hi : i < vs.length) (hj : j < vs.length) (h : outId vs i = outId vs j) : i = j := by
 have hn := outE_nodup vs; rw [out_ids] at hn; have hl : ∀ k, k < vs.length → ((List.range vs.length).map fun i => ((outId vs i : Nat) : Int))[k]? = some ((outId vs k : Nat) : Int) := fun k hk => by
  rw [List.getElem?_map, List.getElem?_range hk]; rfl
 have h2 := (List.getElem?_inj (by rw [List.length_map, List.length_range]; exact hi) hn).1 ((hl i hi).trans (by rw [h]; exact (hl j hj).symm)); exact h2
theorem out_ord (vs : List Val) {i : Nat} (hi : i + 1 < vs.length) : ordV (g vs (outId vs i)) (g vs (outId vs (i + 1))) ≤ 0 ∧ (ordV (g vs (outId vs i)) (g vs (outId vs (i + 1))) = 0 → outId vs i ≤ outId vs (i + 1)) := by
 have key : ∀ (L : List Ent), Asc ltE L → ∀ i, i + 1 < L.length → ltE (g L (i + 1)) (g L i) = false := by
  intro L; induction L with
  | nil => intro _ i h; exact absurd h (Nat.not_lt_zero _)
  | cons x xs ih =>
   intro h i hi; cases i with
   | zero =>
    have : g (x :: xs) 1 = g xs 0 := rfl; rw [this]; exact h.1 _ (g_mem xs 0 (by simpa using hi))
   | succ i => exact ih h.2 i (by simpa using hi)
 have h := key (outE vs) (outE_asc vs) i (by rw [outE_length]; exact hi); obtain ⟨a1, a2, -⟩ := out_at vs (show i < vs.length by omega); obtain ⟨b1, b2, -⟩ := out_at vs hi; rw [a2, b2, ltE_false] at h; have h2 : ordV (g vs (outId vs (i + 1))) (g vs (outId vs i)) = -ordV (g vs (outId vs i)) (g vs (outId vs (i + 1))) := ordV_anti _ _; have h3 : ¬ (ordV (g vs (outId vs (i + 1))) (g vs (outId vs i)) < 0 ∨ ordV (g vs (outId vs (i + 1))) (g vs (outId vs i)) = 0 ∧ ((outId vs (i + 1) : Nat) : Int) < ((outId vs i : Nat) : Int)) := h; constructor
 ·
  by_cases c : ordV (g vs (outId vs (i + 1))) (g vs (outId vs i)) < 0
  · exact absurd (.inl c) h3
  omega
 intro c; by_cases c2 : ((outId vs (i + 1) : Nat) : Int) < ((outId vs i : Nat) : Int)
 · exact absurd (.inr ⟨by omega, c2⟩) h3
 omega
end Go.Proofs.YtmbacdkpgfbclaaGreatDoor
