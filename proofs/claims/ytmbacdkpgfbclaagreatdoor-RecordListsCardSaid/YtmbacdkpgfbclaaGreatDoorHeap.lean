/- A heap in a list, in plain words: sift up, sift down, push, pop; what they keep; conditions: the order is a strict weak one. -/
set_option linter.unusedVariables false
set_option linter.unusedSectionVars false
namespace Go.Proofs.YtmbacdkpgfbclaaGreatDoor.Heap
variable {α : Type} [Inhabited α]

def g (L : List α) (i : Nat) : α := L.getD i default
def swp (L : List α) (i j : Nat) : List α := (L.set i (g L j)).set j (g L i)
theorem swp_length (L : List α) (i j : Nat) : (swp L i j).length = L.length := by simp [swp]
theorem g_set (L : List α) (i k : Nat) (x : α) (hi : i < L.length) : g (L.set i x) k = if k = i then x else g L k := by
 unfold g; rw [List.getD_eq_getElem?_getD, List.getD_eq_getElem?_getD, List.getElem?_set]; by_cases h : i = k
 · subst h; simp [hi]
 rw [if_neg h, if_neg (fun e => h e.symm)]
theorem g_swp (L : List α) (i j k : Nat) (hi : i < L.length) (hj : j < L.length) : g (swp L i j) k = if k = j then g L i else if k = i then g L j else g L k := by
 unfold swp; rw [g_set _ _ _ _ (by simpa using hj), g_set _ _ _ _ hi]
theorem g_mem (L : List α) (i : Nat) (hi : i < L.length) : g L i ∈ L := by
 unfold g; rw [List.getD_eq_getElem?_getD, List.getElem?_eq_getElem hi]; exact List.getElem_mem hi
theorem g_of (L : List α) {i : Nat} {x : α} (h : L[i]? = some x) : g L i = x := by
 unfold g; rw [List.getD_eq_getElem?_getD, h]; rfl
theorem swp_perm (L : List α) (i j : Nat) (hi : i < L.length) (hj : j < L.length) : (swp L i j).Perm L := by
 have h1 : g L i = L[i] := g_of L (List.getElem?_eq_getElem hi); have h2 : g L j = L[j] := g_of L (List.getElem?_eq_getElem hj); unfold swp; rw [h1, h2]; exact List.set_set_perm hi hj

theorem swp_comm (L : List α) (i j : Nat) (h : i ≠ j) : swp L i j = swp L j i := by
 unfold swp; rw [List.set_comm _ _ h]
variable (lt : α → α → Bool)
def siftUp (L : List α) (i : Nat) : List α :=
 if _h : i = 0 then L else if lt (g L i) (g L ((i - 1) / 2)) = true then siftUp (swp L i ((i - 1) / 2)) ((i - 1) / 2) else L
 termination_by i
 decreasing_by omega
def child (L : List α) (n i : Nat) : Nat := if 2 * i + 2 < n ∧ lt (g L (2 * i + 2)) (g L (2 * i + 1)) = true then 2 * i + 2 else 2 * i + 1
theorem child_of (L : List α) (n i : Nat) (h : 2 * i + 1 < n) : child lt L n i < n ∧ (child lt L n i - 1) / 2 = i ∧ i < child lt L n i := by
 unfold child; split <;> omega
def siftDown (L : List α) (n i : Nat) : List α :=
 if h : n ≤ 2 * i + 1 then L else if lt (g L (child lt L n i)) (g L i) = true then siftDown (swp L (child lt L n i) i) n (child lt L n i) else L
 termination_by n - i
 decreasing_by
  have := child_of lt L n i (by omega)
  omega
def push (L : List α) (x : α) : List α := siftUp lt (L ++ [x]) L.length
def pop (L : List α) : List α := siftDown lt ((L.set 0 (g L (L.length - 1))).take (L.length - 1)) (L.length - 1) 0

theorem siftUp_length : ∀ (i : Nat) (L : List α), (siftUp lt L i).length = L.length := by
 intro i; induction i using Nat.strongRecOn with
 | _ i ih =>
 intro L; unfold siftUp; split
 · rfl
 split
 · rw [ih _ (by omega), swp_length]
 rfl
theorem siftUp_perm : ∀ (i : Nat) (L : List α), i < L.length → (siftUp lt L i).Perm L := by
 intro i; induction i using Nat.strongRecOn with
 | _ i ih =>
 intro L hi; unfold siftUp; split
 · exact .refl _
 split
 · exact (ih _ (by omega) _ (by rw [swp_length]; omega)).trans (swp_perm L i _ hi (by omega))
 exact .refl _
theorem siftDown_length (n : Nat) : ∀ (d i : Nat) (L : List α), n - i = d → (siftDown lt L n i).length = L.length := by
 intro d; induction d using Nat.strongRecOn with
 | _ d ih =>
 intro i L hd; unfold siftDown; split
 · rfl
 rename_i h; have hc := child_of lt L n i (by omega); split
 · rw [ih _ (by omega) _ _ rfl, swp_length]
 rfl
theorem siftDown_perm (n : Nat) : ∀ (d i : Nat) (L : List α), n - i = d → n = L.length → (siftDown lt L n i).Perm L := by
 intro d; induction d using Nat.strongRecOn with
 | _ d ih =>
 intro i L hd hn; unfold siftDown; split
 · exact .refl _
 rename_i h; have hc := child_of lt L n i (by omega); split
 · exact (ih _ (by omega) _ _ rfl (by rw [swp_length]; exact hn)).trans (swp_perm L _ i (by omega) (by omega))
 exact .refl _
theorem push_perm (L : List α) (x : α) : (push lt L x).Perm (x :: L) :=
 (siftUp_perm lt _ _ (by simp)).trans List.perm_append_comm
theorem push_length (L : List α) (x : α) : (push lt L x).length = L.length + 1 := by
 unfold push; rw [siftUp_length]; simp
theorem pop_length (L : List α) : (pop lt L).length = L.length - 1 := by
 unfold pop; rw [siftDown_length lt _ _ _ _ rfl]; simp
theorem pop_perm (L : List α) (h : L ≠ []) : L.Perm (g L 0 :: pop lt L) := by
 have hl : 0 < L.length := List.length_pos_iff.mpr h; have h1 : (pop lt L).Perm ((L.set 0 (g L (L.length - 1))).take (L.length - 1)) := siftDown_perm lt _ _ _ _ rfl (by simp); refine List.Perm.trans ?_ (List.Perm.cons _ h1.symm); -- the list with its ends exchanged
 have h2 := (swp_perm L 0 (L.length - 1) hl (by omega)).symm; refine h2.trans ?_; have h3 : swp L 0 (L.length - 1) = (L.set 0 (g L (L.length - 1))).take (L.length - 1) ++ [g L 0] := by
  unfold swp; apply List.ext_getElem?; intro k; by_cases hk : k < L.length - 1
  · rw [List.getElem?_set_ne (by omega), List.getElem?_append_left (by simp; omega), List.getElem?_take_of_lt hk]
  by_cases hk2 : k = L.length - 1
  · subst hk2; rw [List.getElem?_set_self (by simp; omega), List.getElem?_append_right (by simp)]; simp
  rw [List.getElem?_eq_none (by simp; omega), List.getElem?_eq_none (by simp; omega)]
 rw [h3]; exact List.perm_append_comm

/-- No element comes ahead of the one above it. -/
def Hp (L : List α) (n : Nat) : Prop := ∀ i, 0 < i → i < n → lt (g L i) (g L ((i - 1) / 2)) = false
structure Weak : Prop where
 asym : ∀ a b, lt a b = true → lt b a = false
 trans : ∀ a b c, lt a b = false → lt b c = false → lt a c = false
variable {lt}
theorem Weak.irrefl (h : Weak lt) (a : α) : lt a a = false := by
 cases e : lt a a with
 | false => rfl
 | true => exact e ▸ h.asym a a e
theorem Weak.chain (h : Weak lt) {a b c : α} (h1 : lt a b = true) (h2 : lt c b = false) : lt c a = false := h.trans _ _ _ h2 (h.asym _ _ h1)
theorem Hp.least (h : Weak lt) {L : List α} {n : Nat} (hp : Hp lt L n) : ∀ i, i < n → lt (g L i) (g L 0) = false := by
 intro i; induction i using Nat.strongRecOn with
 | _ i ih =>
 intro hi; by_cases h0 : i = 0
 · subst h0; exact h.irrefl _
 exact h.trans _ _ _ (hp i (by omega) hi) (ih _ (by omega) (by omega))
theorem siftUp_heap (h : Weak lt) : ∀ (i : Nat) (L : List α) (n : Nat), n = L.length → i < n →
  (∀ j, 0 < j → j < n → j ≠ i → lt (g L j) (g L ((j - 1) / 2)) = false) →
  (∀ j, 0 < j → j < n → (j - 1) / 2 = i → 0 < i → lt (g L j) (g L ((i - 1) / 2)) = false) → Hp lt (siftUp lt L i) n := by
 intro i; induction i using Nat.strongRecOn with
 | _ i ih =>
 intro L n hn hi h1 h2; unfold siftUp; split
 · rename_i h0; intro j hj hjn; exact h1 j hj hjn (by omega)
 rename_i h0; split
 ·
  rename_i hlt; have hp : (i - 1) / 2 < i := by omega
  refine ih _ hp _ n (by rw [swp_length]; exact hn) (by omega) ?_ ?_
  ·
   intro j hj hjn hne; rw [g_swp L _ _ _ (by omega) (by omega), g_swp L _ _ _ (by omega) (by omega), if_neg hne]; by_cases hji : j = i
   · subst hji; rw [if_pos rfl, if_pos rfl]; exact h.asym _ _ hlt
   rw [if_neg hji]; by_cases hpj : (j - 1) / 2 = (i - 1) / 2
   · rw [if_pos hpj]; have := h1 j hj hjn hji; rw [hpj] at this; exact h.chain hlt this
   rw [if_neg hpj]; by_cases hpi : (j - 1) / 2 = i
   · rw [if_pos hpi]; exact h2 j hj hjn hpi (by omega)
   rw [if_neg hpi]; exact h1 j hj hjn hji
  intro j hj hjn hpj hpos; have hq : ((i - 1) / 2 - 1) / 2 < (i - 1) / 2 := by omega
  have hjne : j ≠ (i - 1) / 2 := by omega
  rw [g_swp L _ _ _ (by omega) (by omega), g_swp L _ _ _ (by omega) (by omega), if_neg hjne, if_neg (by omega : ((i - 1) / 2 - 1) / 2 ≠ (i - 1) / 2), if_neg (by omega : ((i - 1) / 2 - 1) / 2 ≠ i)]; have hup := h1 ((i - 1) / 2) hpos (by omega) (by omega); by_cases hji : j = i
  · rw [if_pos hji]; exact hup
  rw [if_neg hji]; have := h1 j hj hjn hji; rw [hpj] at this; exact h.trans _ _ _ this hup
 rename_i hlt; intro j hj hjn; by_cases hji : j = i
 · subst hji; simpa using hlt
 exact h1 j hj hjn hji
theorem push_heap (h : Weak lt) {L : List α} (x : α) (hp : Hp lt L L.length) : Hp lt (push lt L x) (push lt L x).length := by
 rw [push_length]; unfold push; have hg : ∀ j, j < L.length → g (L ++ [x]) j = g L j := fun j hj => by
  unfold g; rw [List.getD_eq_getElem?_getD, List.getD_eq_getElem?_getD, List.getElem?_append_left hj]
 refine siftUp_heap h _ _ _ (by simp) (by omega) ?_ ?_
 · intro j hj hjn hne; rw [hg j (by omega), hg _ (by omega)]; exact hp j hj (by omega)
 intro j hj hjn hpj _; omega
end Go.Proofs.YtmbacdkpgfbclaaGreatDoor.Heap
