/- RelateSorted: the plain law; conditions: up to 2^42 values, each text shorter than 2^62. -/
import Derived.Test.YtoanmnhkhookfaaGreatDoorOrder
import Derived.Test.YtoanmnhkhookfaaGreatDoorPXRelateSortedd
import Derived.Test.YtoanmnhkhookfaaGreatDoorPXRelateTextsx0
import Derived.Test.YtoanmnhkhookfaaGreatDoorPureAwake
import Derived.Test.YtoanmnhkhookfaaGreatDoorTop
namespace Go.Proofs.YtoanmnhkhookfaaGreatDoor
open Heap
set_option linter.unusedVariables false

/-- What comes out, whole. -/
def popEnts (lt : Ent → Ent → Bool) : Nat → List Ent → List Ent
  | 0, _ => []
  | j + 1, L => g L 0 :: popEnts lt j (pop lt L)
theorem popIds_ents (lt : Ent → Ent → Bool) : ∀ (j : Nat) (L : List Ent), popIds lt j L = (popEnts lt j L).map (·.2.2.2)
  | 0, _ => rfl
  | j + 1, L => by
    show (g L 0).2.2.2 :: popIds lt j (pop lt L) = _
    rw [popIds_ents lt j]
    rfl
theorem popEnts_perm (lt : Ent → Ent → Bool) : ∀ (j : Nat) (L : List Ent), L.length = j → (popEnts lt j L).Perm L
  | 0, L, h => by
    rw [List.eq_nil_of_length_eq_zero h]
    exact List.Perm.refl _
  | j + 1, L, h => by
    have hne : L ≠ [] := fun e => by rw [e] at h; cases h
    have ih := popEnts_perm lt j (pop lt L) (by rw [pop_length]; omega)
    exact (List.Perm.cons _ ih).trans (pop_perm lt L hne).symm
/-- One behind the other: nothing comes ahead of what came before it. -/
def Asc (lt : Ent → Ent → Bool) : List Ent → Prop
  | [] => True
  | x :: xs => (∀ y ∈ xs, lt y x = false) ∧ Asc lt xs
theorem popEnts_asc {lt : Ent → Ent → Bool} (hw : Weak lt) : ∀ (j : Nat) (L : List Ent), L.length = j → Hp lt L L.length → Asc lt (popEnts lt j L)
  | 0, _, _, _ => trivial
  | j + 1, L, h, hp => by
    have hl : (pop lt L).length = j := by rw [pop_length]; omega
    refine ⟨fun y hy => ?_, popEnts_asc hw j (pop lt L) hl (pop_heap hw hp)⟩
    have hy2 : y ∈ pop lt L := (popEnts_perm lt j _ hl).subset hy
    exact pop_least hw hp y hy2
theorem asc_unique {lt : Ent → Ent → Bool} : ∀ (A B : List Ent), A.Perm B → Asc lt A → Asc lt B → (∀ x ∈ A, ∀ y ∈ A, lt x y = false → lt y x = false → x = y) → A = B
  | [], B, hp, _, _, _ => (List.nil_perm.mp hp).symm
  | x :: xs, [], hp, _, _, _ => by have := hp.length_eq; simp at this
  | x :: xs, y :: ys, hp, ha, hb, ht => by
    have hxy : x = y := by
      have hx : x ∈ y :: ys := hp.subset (List.mem_cons_self ..)
      have hy : y ∈ x :: xs := hp.symm.subset (List.mem_cons_self ..)
      rcases List.mem_cons.mp hx with e | hx'
      · exact e
      · rcases List.mem_cons.mp hy with e | hy'
        · exact e.symm
        · exact ht x (List.mem_cons_self ..) y hy (hb.1 x hx') (ha.1 y hy')
    subst hxy
    have hp' := (List.perm_cons x).mp hp
    rw [asc_unique xs ys hp' ha.2 hb.2 (fun a ha' b hb' => ht a (List.mem_cons_of_mem _ ha') b (List.mem_cons_of_mem _ hb'))]
theorem popIds_take (lt : Ent → Ent → Bool) : ∀ (j n : Nat) (L : List Ent), j ≤ n → popIds lt j L = (popIds lt n L).take j
  | 0, _, _, _ => rfl
  | j + 1, 0, _, h => by omega
  | j + 1, n + 1, L, h => by
    show (g L 0).2.2.2 :: popIds lt j (pop lt L) = ((g L 0).2.2.2 :: popIds lt n (pop lt L)).take (j + 1)
    rw [List.take_succ_cons, popIds_take lt j n _ (by omega)]
/-- The entries of a row of values. -/
def entsOf (vs : List Val) : Nat → List Ent
  | 0 => []
  | m + 1 => entsOf vs m ++ [entOf (g vs m) m]
theorem heapOf_perm (lt : Ent → Ent → Bool) (vs : List Val) : ∀ m, (heapOf lt vs m).Perm (entsOf vs m)
  | 0 => List.Perm.refl _
  | m + 1 => (push_perm lt _ _).trans (((List.Perm.cons _ (heapOf_perm lt vs m))).trans (List.perm_append_comm (l₁ := [entOf (g vs m) m])))
theorem heapOf_heap {lt : Ent → Ent → Bool} (hw : Weak lt) (vs : List Val) : ∀ m, Hp lt (heapOf lt vs m) (heapOf lt vs m).length
  | 0 => by intro i h1 h2; exact absurd h2 (Nat.not_lt_zero _)
  | m + 1 => push_heap hw _ (heapOf_heap hw vs m)
theorem mem_entsOf (vs : List Val) (e : Ent) : ∀ m, e ∈ entsOf vs m ↔ ∃ i, i < m ∧ e = entOf (g vs i) i
  | 0 => by
    constructor
    · intro h; cases h
    · rintro ⟨i, hi, _⟩; omega
  | m + 1 => by
    rw [entsOf, List.mem_append, List.mem_singleton, mem_entsOf vs e m]
    constructor
    · rintro (⟨i, h1, h2⟩ | h)
      · exact ⟨i, by omega, h2⟩
      · exact ⟨m, by omega, h⟩
    · rintro ⟨i, h1, h2⟩
      rcases Nat.lt_or_ge i m with h | h
      · exact .inl ⟨i, h, h2⟩
      · obtain rfl : i = m := by omega
        exact .inr h2
theorem entsOf_ids (vs : List Val) : ∀ m, (entsOf vs m).map (·.2.2.2) = List.map (α := Nat) (fun i => (i : Int)) (List.range m)
  | 0 => rfl
  | m + 1 => by
    rw [entsOf, List.map_append, entsOf_ids vs m, List.range_succ, List.map_append]
    rfl
/-- The order's ties are one entry's own, among a row's entries. -/
theorem ltE_total {x y : Ent} (h1 : ltE x y = false) (h2 : ltE y x = false) : x.2.2.2 = y.2.2.2 := by
  rw [ltE_false] at h1 h2
  have := ordV_anti (valE x) (valE y)
  omega
/-- The entries in the order in which they come out. -/
def outE (vs : List Val) : List Ent := popEnts ltE vs.length (heapOf ltE vs vs.length)
theorem outE_perm (vs : List Val) : (outE vs).Perm (entsOf vs vs.length) := (popEnts_perm ltE _ _ (heapOf_length ltE vs _)).trans (heapOf_perm ltE vs _)
theorem outE_asc (vs : List Val) : Asc ltE (outE vs) := popEnts_asc ltE_weak _ _ (heapOf_length ltE vs _) (heapOf_heap ltE_weak vs _)
theorem topIds_outE (vs : List Val) (k : Int) : topIds ltE vs k = ((outE vs).map (·.2.2.2)).take (min k.toNat vs.length) := by
  unfold topIds outE
  rw [popIds_take ltE _ vs.length _ (Nat.min_le_right _ _), popIds_ents]
theorem outE_length (vs : List Val) : (outE vs).length = vs.length := by
  have h := (outE_perm vs).length_eq
  have h2 : (entsOf vs vs.length).length = vs.length := by
    have := congrArg List.length (entsOf_ids vs vs.length)
    simpa using this
  rw [h, h2]
/-- Each number once. -/
theorem outE_nodup (vs : List Val) : ((outE vs).map (·.2.2.2)).Nodup := by
  have hp := (outE_perm vs).map (·.2.2.2)
  rw [entsOf_ids] at hp
  refine (hp.nodup_iff).mpr ?_
  have hr : (List.range vs.length).Nodup := List.nodup_range
  unfold List.Nodup at hr ⊢
  rw [List.pairwise_map]
  exact hr.imp fun h e => h (by have e2 : ((_ : Nat) : Int) = ((_ : Nat) : Int) := e; omega)
/-- Which value stands at a number. -/
theorem outE_at (vs : List Val) {e : Ent} (h : e ∈ outE vs) : ∃ i, i < vs.length ∧ e = entOf (g vs i) i := (mem_entsOf vs e _).mp ((outE_perm vs).subset h)
theorem asc_snoc {lt : Ent → Ent → Bool} (e : Ent) : ∀ L : List Ent, Asc lt L → (∀ x ∈ L, lt e x = false) → Asc lt (L ++ [e])
  | [], _, _ => ⟨fun y hy => (by cases hy), trivial⟩
  | x :: xs, ih, hl => by
    refine ⟨fun y hy => ?_, asc_snoc e xs ih.2 fun z hz => hl z (List.mem_cons_of_mem _ hz)⟩
    rcases List.mem_append.mp hy with h1 | h1
    · exact ih.1 y h1
    · rw [List.mem_singleton.mp h1]
      exact hl x (List.mem_cons_self ..)
/-- A row that is in order comes out as it stood. -/
theorem entsOf_asc (vs : List Val) (h : ∀ i j, i < j → j < vs.length → ordV (g vs i) (g vs j) ≤ 0) : ∀ m, m ≤ vs.length → Asc ltE (entsOf vs m)
  | 0, _ => trivial
  | m + 1, hm => by
    have ih := entsOf_asc vs h m (by omega)
    have hl : ∀ x ∈ entsOf vs m, ltE (entOf (g vs m) m) x = false := fun x hx => by
      obtain ⟨i, hi, rfl⟩ := (mem_entsOf vs x m).mp hx
      rw [ltE_false]
      have h1 := h i m hi (by omega)
      have h2 : ordV (g vs m) (g vs i) = -ordV (g vs i) (g vs m) := ordV_anti _ _
      rintro (h3 | ⟨h3, h4⟩)
      · have h5 : ordV (g vs m) (g vs i) < 0 := h3
        omega
      · have h5 : ((m : Nat) : Int) < ((i : Nat) : Int) := h4
        omega
    rw [entsOf]
    exact asc_snoc _ _ ih hl
theorem outE_same (vs : List Val) (h : ∀ i j, i < j → j < vs.length → ordV (g vs i) (g vs j) ≤ 0) : outE vs = entsOf vs vs.length := by
  refine asc_unique _ _ (outE_perm vs) (outE_asc vs) (entsOf_asc vs h _ (Nat.le_refl _)) fun x hx y hy h1 h2 => ?_
  have hid := ltE_total h1 h2
  obtain ⟨i, _, rfl⟩ := outE_at vs hx
  obtain ⟨j, _, rfl⟩ := outE_at vs hy
  have : i = j := by
    have h3 : ((i : Nat) : Int) = ((j : Nat) : Int) := hid
    omega
  rw [this]
end Go.Proofs.YtoanmnhkhookfaaGreatDoor
namespace Go.Proofs.YtoanmnhkhookfaaGreatDoor
open Go.RowKit Go.Proofs.YtoanmnhkhookfaaGreatDoor.PXRelateTexts Go.Proofs.YtoanmnhkhookfaaGreatDoorW.PrintWords
def toS (v : Val) : S29 := ⟨v.1, v.2.1, v.2.2⟩
theorem C_of_VR {w : World} {A : Option Addr} {vs : List Val} (h : VR w A vs) (hl : vs.length ≤ 9223372036854775807) : Kd.C k29 w A vs.length (vs.map toS) := by
  refine ⟨List.length_map _, hl, fun hn => ?_⟩
  obtain ⟨ad, hA, _⟩ := h 0 hn
  refine ⟨ad, hA, fun j p hj => ⟨[.int .i64 p.f0, .int .u64 p.f1, .string p.f2], rfl, k29_mk _ _, ?_⟩⟩
  rw [List.getElem?_map] at hj
  obtain ⟨x, hx, rfl⟩ := Option.map_eq_some_iff.1 hj
  obtain ⟨hlt, hx2⟩ := List.getElem?_eq_some_iff.1 hx
  have hg : Heap.g vs j = x := by
    unfold Heap.g
    rw [List.getD_eq_getElem?_getD, hx]
    rfl
  obtain ⟨ad', hA', c0, c1, c2⟩ := h j hlt
  rw [hA] at hA'
  obtain rfl := Option.some.inj hA'
  rw [hg] at c0 c1 c2
  rw [← add_field _ _ 1 (by omega)] at c1
  rw [← add_field _ _ 2 (by omega)] at c2
  intro i u hu
  match i, hu with
  | 0, hu => cases hu; exact c0
  | 1, hu => cases hu; exact c1
  | 2, hu => cases hu; exact c2
theorem small_of {vs : List Val} (hl : vs.length < 4398046511104) (hs : ∀ i, i < vs.length → (Heap.g vs i).2.2.size ≤ 4611686018427387904) : (vs.map toS).length < 4398046511104 ∧ ∀ x ∈ vs.map toS, x.f2.size ≤ 4611686018427387904 := by
  refine ⟨by rw [List.length_map]; exact hl, fun x hx => ?_⟩
  obtain ⟨v, hv, rfl⟩ := List.mem_map.1 hx
  obtain ⟨i, hi, rfl⟩ := List.mem_iff_getElem.1 hv
  have h := hs i hi
  unfold Heap.g at h
  rw [List.getD_eq_getElem?_getD, List.getElem?_eq_getElem hi] at h
  exact h
end Go.Proofs.YtoanmnhkhookfaaGreatDoor
namespace Go.Proofs.YtoanmnhkhookfaaGreatDoor.Pure
open Go.RowKit Go.Proofs.YtoanmnhkhookfaaGreatDoor.PXRelateTexts Go.Proofs.YtoanmnhkhookfaaGreatDoor.PXRelateSorted Go.Proofs.YtoanmnhkhookfaaGreatDoorW.PrintWords Go.Proofs.YtoanmnhkhookfaaGreatDoorW.PrintLast Go.Proofs.YtoanmnhkhookfaaGreatDoorW.PrintMore
open Go.Proofs.YtoanmnhkhookfaaGreatDoor
set_option linter.unusedVariables false

/-- The places in the order in which they come out. -/
def pl (l0 : List S29) : List Int := (outE (l0.map valS)).map (·.2.2.2)
theorem pl_length (l0 : List S29) : (pl l0).length = l0.length := by
  unfold pl
  rw [List.length_map, outE_length, List.length_map]
theorem gmap (l0 : List S29) {i : Nat} (h : i < l0.length) : Heap.g (l0.map valS) i = valS (rd_T29 l0 (i : Int)) := by
  unfold Heap.g rd_T29
  rw [Int.toNat_natCast, List.getD_eq_getElem?_getD, List.getD_eq_getElem?_getD, List.getElem?_map, List.getElem?_eq_getElem h]
  rfl
theorem pl_at (l0 : List S29) {i : Nat} (h : i < l0.length) : ∃ j : Nat, j < l0.length ∧ rd (pl l0) (i : Int) = (j : Int) ∧ (outE (l0.map valS))[i]'(by rw [outE_length, List.length_map]; exact h) = entOf (Heap.g (l0.map valS) j) j := by
  have hl : i < (outE (l0.map valS)).length := by rw [outE_length, List.length_map]; exact h
  obtain ⟨j, hj, he⟩ := outE_at (l0.map valS) (List.getElem_mem hl)
  rw [List.length_map] at hj
  refine ⟨j, hj, ?_, he⟩
  unfold pl rd
  rw [Int.toNat_natCast, List.getD_eq_getElem?_getD, List.getElem?_map, List.getElem?_eq_getElem hl, he]
  rfl
theorem asc_get {lt : Ent → Ent → Bool} : ∀ (L : List Ent), Asc lt L → ∀ (i j : Nat) (hij : i < j) (hj : j < L.length), lt (L[j]) (L[i]'(Nat.lt_trans hij hj)) = false
  | [], _, _, j, _, hj => absurd hj (Nat.not_lt_zero _)
  | x :: xs, h, _, 0, hij, _ => absurd hij (Nat.not_lt_zero _)
  | x :: xs, h, 0, j + 1, _, hj => h.1 _ (List.getElem_mem (by simpa using hj))
  | x :: xs, h, i + 1, j + 1, hij, hj => asc_get xs h.2 i j (Nat.lt_of_succ_lt_succ hij) (by simpa using hj)
theorem pl_ord (l0 : List S29) {i j : Nat} (hij : i < j) (hj : j < l0.length) :
    ordV (valS (rd_T29 l0 (rd (pl l0) (i : Int)))) (valS (rd_T29 l0 (rd (pl l0) (j : Int)))) ≤ 0 ∧ (ordV (valS (rd_T29 l0 (rd (pl l0) (i : Int)))) (valS (rd_T29 l0 (rd (pl l0) (j : Int)))) = 0 → rd (pl l0) (i : Int) ≤ rd (pl l0) (j : Int)) := by
  obtain ⟨a, ha, ea, fa⟩ := pl_at l0 (show i < l0.length by omega)
  obtain ⟨b, hb, eb, fb⟩ := pl_at l0 hj
  have h := asc_get _ (outE_asc (l0.map valS)) i j hij (by rw [outE_length, List.length_map]; exact hj)
  rw [fa, fb, ltE_false] at h
  rw [ea, eb, ← gmap l0 ha, ← gmap l0 hb]
  have h2 : ordV (Heap.g (l0.map valS) b) (Heap.g (l0.map valS) a) = -ordV (Heap.g (l0.map valS) a) (Heap.g (l0.map valS) b) := ordV_anti _ _
  have h3 : ¬ (ordV (Heap.g (l0.map valS) b) (Heap.g (l0.map valS) a) < 0 ∨ ordV (Heap.g (l0.map valS) b) (Heap.g (l0.map valS) a) = 0 ∧ (b : Int) < (a : Int)) := h
  constructor
  · by_cases c : ordV (Heap.g (l0.map valS) b) (Heap.g (l0.map valS) a) < 0
    · exact absurd (.inl c) h3
    · omega
  · intro c
    by_cases c2 : (b : Int) < (a : Int)
    · exact absurd (.inr ⟨by omega, c2⟩) h3
    · omega
theorem pl_nodup (l0 : List S29) {i j : Nat} (hi : i < l0.length) (hj : j < l0.length) (h : rd (pl l0) (i : Int) = rd (pl l0) (j : Int)) : i = j := by
  have hn : (pl l0).Nodup := outE_nodup (l0.map valS)
  have hi2 : i < (pl l0).length := by rw [pl_length]; exact hi
  have hj2 : j < (pl l0).length := by rw [pl_length]; exact hj
  unfold rd at h
  rw [Int.toNat_natCast, Int.toNat_natCast, List.getD_eq_getElem?_getD, List.getD_eq_getElem?_getD, List.getElem?_eq_getElem hi2, List.getElem?_eq_getElem hj2] at h
  exact (List.getElem_inj hn).mp h
theorem sort_val (l0 : List S29) (hs : smallS l0) : relate_Sort.f l0 = some (pl l0) := by
  unfold relate_Sort.f relate_Top.f
  rw [if_pos hs, Option.bind_some, topIds_outE]
  unfold pl
  rw [List.take_of_length_le (by rw [List.length_map, outE_length, List.length_map]; omega)]
theorem top_val (l0 : List S29) (hs : smallS l0) (k : Int) : relate_Top.f l0 k = some ((pl l0).take (min k.toNat l0.length)) := by
  unfold relate_Top.f
  rw [if_pos hs, topIds_outE, List.length_map]
  rfl
/-- The values in their order. -/
def agn (l0 : List S29) (i : Nat) : List S29 := ((pl l0).take i).map (fun p => rd_T29 l0 p)
theorem agn_length (l0 : List S29) {i : Nat} (h : i ≤ l0.length) : (agn l0 i).length = i := by
  unfold agn
  rw [List.length_map, List.length_take, pl_length]
  omega
theorem agn_succ (l0 : List S29) {i : Nat} (h : i < l0.length) : agn l0 i ++ [rd_T29 l0 (rd (pl l0) (i : Int))] = agn l0 (i + 1) := by
  have hl : i < (pl l0).length := by rw [pl_length]; exact h
  unfold agn
  rw [List.take_succ_eq_append_getElem hl, List.map_append]
  unfold rd
  rw [Int.toNat_natCast, List.getD_eq_getElem?_getD, List.getElem?_eq_getElem hl]
  rfl
theorem rd_small (l0 : List S29) (hs : smallS l0) (i : Int) : (rd_T29 l0 i).f2.size ≤ 4611686018427387904 := by
  unfold rd_T29
  rw [List.getD_eq_getElem?_getD]
  cases hx : l0[i.toNat]? with
  | none => exact Nat.zero_le _
  | some x => exact hs.2 x (List.mem_of_getElem? hx)
theorem agn_small (l0 : List S29) (hs : smallS l0) : smallS (agn l0 l0.length) := by
  refine ⟨by rw [agn_length l0 (Nat.le_refl _)]; exact hs.1, fun x hx => ?_⟩
  obtain ⟨p, _, rfl⟩ := List.mem_map.1 hx
  exact rd_small l0 hs p
theorem agn_at (l0 : List S29) {i : Nat} (h : i < l0.length) : Heap.g ((agn l0 l0.length).map valS) i = valS (rd_T29 l0 (rd (pl l0) (i : Int))) := by
  have hl : i < (pl l0).length := by rw [pl_length]; exact h
  have e : agn l0 l0.length = (pl l0).map (fun p => rd_T29 l0 p) := by
    unfold agn
    rw [List.take_of_length_le (by rw [pl_length]; exact Nat.le_refl _)]
  unfold Heap.g rd
  rw [e, Int.toNat_natCast, List.getD_eq_getElem?_getD, List.getD_eq_getElem?_getD, List.getElem?_map, List.getElem?_map, List.getElem?_eq_getElem hl]
  rfl
/-- A list in order is sorted as it stands. -/
theorem again_val (l0 : List S29) (hs : smallS l0) : relate_Sort.f (agn l0 l0.length) = some (List.map (α := Nat) (fun i => (i : Int)) (List.range l0.length)) := by
  rw [sort_val _ (agn_small l0 hs)]
  unfold pl
  have hl : ((agn l0 l0.length).map valS).length = l0.length := by rw [List.length_map, agn_length l0 (Nat.le_refl _)]
  rw [outE_same _ (fun i j hij hj => by
    rw [hl] at hj
    rw [agn_at l0 (by omega), agn_at l0 hj]
    exact (pl_ord l0 hij hj).1), entsOf_ids, hl]
theorem l1_ev (P Q T : List Int) (n m : Nat) (hP : P.length = n) (hQ : Q = List.map (α := Nat) (fun i => (i : Int)) (List.range n)) (hT : T = P.take m) (hn : n < 4398046511104) : ∀ (d i : Nat), i + d = n → Ev (fun k => abacuslaw18_RelateSorted.l1 k P Q T (i : Int)) true := by
  have hQl : Q.length = n := by rw [hQ]; simp
  intro d
  induction d with
  | zero =>
    intro i hi
    refine Ev.step (f := fun _ => some true) (fun k => ?_) (Ev.now _)
    simp only [abacuslaw18_RelateSorted.l1]
    rw [if_neg (by omega)]
  | succ d ih =>
    intro i hi
    have hq : rd Q (i : Int) = (i : Int) := by
      unfold rd
      rw [hQ, Int.toNat_natCast, List.getD_eq_getElem?_getD, List.getElem?_map, List.getElem?_range (by omega)]
      rfl
    have hw : wrap64 ((i : Int) + 1) = ((i + 1 : Nat) : Int) := by unfold wrap64; omega
    refine Ev.step (fun k => ?_) (ih (i + 1) (by omega))
    simp only [abacuslaw18_RelateSorted.l1]
    rw [if_pos (by omega), if_pos (by omega), if_pos hq, hw]
    by_cases c : (i : Int) < (T.length : Int)
    · have hlt : i < m := by rw [hT, List.length_take] at c; omega
      have ht : rd T (i : Int) = rd P (i : Int) := by
        unfold rd
        rw [hT, Int.toNat_natCast, List.getD_eq_getElem?_getD, List.getD_eq_getElem?_getD, List.getElem?_take, if_pos hlt]
      rw [if_pos c, if_pos (by omega), if_pos ht]
    · rw [if_neg c]
theorem l0_ev (l0 : List S29) (k1 : Int) (hs : smallS l0) : ∀ (d i : Nat), i + d = l0.length → ∀ M : List Bool, M.length = l0.length → (∀ j : Nat, M.getD j false = true → ∃ i' : Nat, i' < i ∧ rd (pl l0) (i' : Int) = (j : Int)) → Ev (fun k => abacuslaw18_RelateSorted.l0 k l0 k1 (pl l0) M (agn l0 i) (i : Int)) true := by
  have hn : l0.length < 4398046511104 := hs.1
  have hP := pl_length l0
  intro d
  induction d with
  | zero =>
    intro i hi M hM hm
    obtain rfl : i = l0.length := by omega
    obtain ⟨Q, hQ⟩ : ∃ Q, Q = List.map (α := Nat) (fun i => (i : Int)) (List.range l0.length) := ⟨_, rfl⟩
    obtain ⟨T, hT⟩ : ∃ T, T = (pl l0).take (min k1.toNat l0.length) := ⟨_, rfl⟩
    have hQl : Q.length = l0.length := by rw [hQ]; simp
    have hTl : T.length = min k1.toNat l0.length := by rw [hT, List.length_take, hP]; omega
    have hq := again_val l0 hs
    have ht := top_val l0 hs k1
    rw [← hQ] at hq
    rw [← hT] at ht
    have hv : abacuslaw18_values.f l0 = some l0 := if_pos hn
    have hne : ((T.length : Int) != mn (mx k1 0) ((pl l0).length : Int)) = false := by
      rw [bne_eq_false_iff_eq]
      unfold mn mx
      split <;> split <;> omega
    refine Ev.step (f := fun k => abacuslaw18_RelateSorted.j2 k (pl l0) Q T false) (fun k => ?_) ?_
    · simp only [abacuslaw18_RelateSorted.l0]
      rw [if_neg (by omega), hq, Option.bind_some, hv, Option.bind_some, ht, Option.bind_some, if_pos (by omega), hne]
    · refine Ev.step (f := fun k => abacuslaw18_RelateSorted.l1 k (pl l0) Q T 0) (fun k => ?_) (l1_ev (pl l0) Q T l0.length _ hP hQ hT hn l0.length 0 (by omega))
      simp only [abacuslaw18_RelateSorted.j2]
      rw [if_neg (by decide)]
  | succ d ih =>
    intro i hi M hM hm
    have hlt : i < l0.length := by omega
    obtain ⟨j, hj, ej, _⟩ := pl_at l0 hlt
    have hfree : rdOf false M (j : Int) = false := by
      unfold rdOf
      rw [Int.toNat_natCast]
      cases hx : M.getD j false with
      | false => rfl
      | true =>
        obtain ⟨i', h1, h2⟩ := hm j hx
        rw [← ej] at h2
        have := pl_nodup l0 (show i' < l0.length by omega) hlt h2
        omega
    have hset : ∀ j' : Nat, (M.set j true).getD j' false = true → ∃ i' : Nat, i' < i + 1 ∧ rd (pl l0) (i' : Int) = (j' : Int) := fun j' h => by
      by_cases c : j = j'
      · subst c
        exact ⟨i, by omega, ej⟩
      · rw [List.getD_eq_getElem?_getD, List.getElem?_set_ne c, ← List.getD_eq_getElem?_getD] at h
        obtain ⟨i', h1, h2⟩ := hm j' h
        exact ⟨i', by omega, h2⟩
    have hnext := ih (i + 1) (by omega) (M.set j true) (by rw [List.length_set]; exact hM) hset
    have hw : wrap64 ((i : Int) + 1) = ((i + 1 : Nat) : Int) := by unfold wrap64; omega
    have hag := agn_succ l0 hlt
    have hal := agn_length l0 (show i ≤ l0.length by omega)
    refine Ev.step (f := fun k => abacuslaw18_RelateSorted.j1 k l0 k1 (pl l0) M (agn l0 i) (i : Int) false) (fun k => ?_) ?_
    · simp only [abacuslaw18_RelateSorted.l0]
      rw [if_pos (by omega), if_pos (by omega), ej, if_neg (by omega), if_neg (by omega), if_pos (by omega), if_pos (by omega), hfree]
    · by_cases h0 : i = 0
      · refine Ev.step (f := fun k => abacuslaw18_RelateSorted.l0 k l0 k1 (pl l0) (M.set j true) (agn l0 (i + 1)) (((i + 1 : Nat) : Int))) (fun k => ?_) hnext
        simp only [abacuslaw18_RelateSorted.j1]
        rw [if_neg (by decide), if_pos (by omega), if_pos (by omega), ej, if_pos (by omega), if_pos (by omega), Option.bind_some, if_pos (by omega), if_pos (by omega), Option.bind_some, if_neg (by omega), hw]
        rw [ej] at hag
        rw [← hag, Int.toNat_natCast]
      · have hp : wrap64 ((i : Int) - 1) = ((i - 1 : Nat) : Int) := by unfold wrap64; omega
        obtain ⟨b, hb, eb, _⟩ := pl_at l0 (show i - 1 < l0.length by omega)
        have ho := pl_ord l0 (show i - 1 < i by omega) hlt
        rw [ej, eb] at ho
        have hord := order_ev (valS (rd_T29 l0 (b : Int))) (valS (rd_T29 l0 (j : Int))) (rd_small l0 hs _)
        refine Ev.step (f := fun k => (relate_Order.f k ((rd_T29 l0 (b : Int)).f0) ((rd_T29 l0 (b : Int)).f1) ((rd_T29 l0 (b : Int)).f2) ((rd_T29 l0 (j : Int)).f0) ((rd_T29 l0 (j : Int)).f1) ((rd_T29 l0 (j : Int)).f2)).bind fun t => (if t > 0 then (some false) else (if t = 0 then (if (b : Int) > (j : Int) then (some false) else (abacuslaw18_RelateSorted.l0 k l0 k1 (pl l0) (M.set j true) (agn l0 (i + 1)) (((i + 1 : Nat) : Int)))) else (abacuslaw18_RelateSorted.l0 k l0 k1 (pl l0) (M.set j true) (agn l0 (i + 1)) (((i + 1 : Nat) : Int)))))) (fun k => ?_) (Ev.bind hord ?_)
        · simp only [abacuslaw18_RelateSorted.j1]
          rw [if_neg (by decide), if_pos (by omega), if_pos (by omega), ej, if_pos (by omega), if_pos (by omega), Option.bind_some, if_pos (by omega), if_pos (by omega), Option.bind_some, if_pos (by omega), hp, if_pos (by omega), if_pos (by omega), eb, if_pos (by omega), if_pos (by omega), hw]
          rw [ej] at hag
          rw [← hag, Int.toNat_natCast]
        · by_cases c0 : ordV (valS (rd_T29 l0 (b : Int))) (valS (rd_T29 l0 (j : Int))) = 0
          · have := ho.2 c0
            exact Ev.congr (fun k => by rw [if_neg (by omega), if_pos c0, if_neg (by omega)]) hnext
          · have := ho.1
            exact Ev.congr (fun k => by rw [if_neg (by omega), if_neg c0]) hnext
theorem RelateSorted (l0 : List S29) (k1 : Int) (hs : smallS l0) : Ev (fun k => abacuslaw18_RelateSorted.f k l0 k1) true := by
  have hn : l0.length < 4398046511104 := hs.1
  have hv : abacuslaw18_values.f l0 = some l0 := if_pos hn
  have hp := pl_length l0
  unfold abacuslaw18_RelateSorted.f
  refine Ev.bind awake_ev ?_
  refine Ev.congr (f := fun k => abacuslaw18_RelateSorted.l0 k l0 k1 (pl l0) (List.replicate l0.length false) (agn l0 0) ((0 : Nat) : Int)) (fun k => ?_) (l0_ev l0 k1 hs l0.length 0 (by omega) _ (by simp) (fun j h => by
    rw [List.getD_eq_getElem?_getD, List.getElem?_replicate] at h
    split at h <;> simp at h))
  rw [if_pos rfl, hv, Option.bind_some, sort_val l0 hs, Option.bind_some, if_pos (by omega), if_pos (by omega), if_pos (by omega), if_pos (by omega), Int.toNat_natCast]
  rfl
end Go.Proofs.YtoanmnhkhookfaaGreatDoor.Pure
