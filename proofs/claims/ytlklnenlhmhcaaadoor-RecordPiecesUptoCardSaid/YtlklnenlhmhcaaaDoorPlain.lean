/- The plain law of RecordPieces: the pieces between the instances of a separator, put together with it, are the text; none holds it; they are what strings.Split tells; conditions: the text and the separator of at most 2^20 bytes. -/
import Derived.Test.YtlklnenlhmhcaaaDoorPXRecordPiecesx1
namespace Go.Proofs.YtlklnenlhmhcaaaDoor.Plain
open Go.RowKit Go.Proofs.YtlklnenlhmhcaaaDoor Go.Proofs.YtlklnenlhmhcaaaDoor.PXRecordPieces Go.Proofs.YtlklnenlhmhcaaaDoorW.PrintWords Go.Proofs.YtlklnenlhmhcaaaDoorW.PrintLast

theorem wrap_nat {i : Nat} (h : i ≤ 140737488355392) : wrap64 ((i : Int) + 1) = ((i + 1 : Nat) : Int) := by
  unfold wrap64; omega
theorem wrap_add {i j : Nat} (h : i + j ≤ 140737488355392) : wrap64 ((i : Int) + (j : Int)) = ((i + j : Nat) : Int) := by
  unfold wrap64; omega
theorem extract_dataL (s : ByteArray) (a b : Nat) : (s.extract a b).data.toList = (s.data.toList.drop a).take (b - a) := by
  obtain ⟨⟨l⟩⟩ := s
  rw [ByteArray.extract_mk]
theorem ext_data {a b : ByteArray} (h : a.data.toList = b.data.toList) : a = b := by
  cases a; cases b; exact congrArg _ (Array.toList_inj.1 h)
theorem extract_extract (s : ByteArray) (i a b : Nat) (_ : i ≤ s.size) (hb : i + b ≤ s.size) : (s.extract i s.size).extract a b = s.extract (i + a) (i + b) := by
  apply ext_data
  rw [extract_dataL, extract_dataL, extract_dataL, List.drop_take, List.drop_drop, List.take_take]
  congr 1
  omega
theorem bytesOf_def (s : ByteArray) : bytesOf s = s.data.toList.map fun b => (b.toNat : Int) := rfl
theorem bytesOf_extract (s : ByteArray) (a b : Nat) : bytesOf (s.extract a b) = ((bytesOf s).drop a).take (b - a) := by
  rw [bytesOf_def, bytesOf_def, extract_dataL, List.map_take, List.map_drop]
theorem bytesOf_len (s : ByteArray) : (bytesOf s).length = s.size := by
  rw [bytesOf_def, List.length_map]; exact Array.length_toList

/-! ### Lib.index: the first instance -/
theorem index_spec : ∀ (s sub : List UInt8), (Lib.index s sub = -1 → ∀ j, j ≤ s.length → Lib.occAt s sub j = false) ∧ (∀ x : Nat, Lib.index s sub = x → (∀ j, j < x → Lib.occAt s sub j = false) ∧ Lib.occAt s sub x = true)
  | [], sub => by
    unfold Lib.index
    refine ⟨fun h j hj => ?_, fun x h => ?_⟩
    · split at h
      · exact absurd h (by decide)
      · rename_i he
        obtain rfl : j = 0 := by simpa using hj
        cases sub with
        | nil => exact absurd rfl he
        | cons c t => rfl
    · split at h
      · rename_i he
        obtain rfl : x = 0 := by omega
        exact ⟨fun j hj => absurd hj (Nat.not_lt_zero _), by cases sub with | nil => rfl | cons c t => exact absurd he (by simp)⟩
      · omega
  | b :: l, sub => by
    obtain ⟨ih1, ih2⟩ := index_spec l sub
    unfold Lib.index
    have hge := Lib.index_ge l sub
    by_cases h0 : sub.isPrefixOf (b :: l) = true
    · rw [if_pos h0]
      refine ⟨fun h => absurd h (by decide), fun x h => ?_⟩
      obtain rfl : x = 0 := by omega
      exact ⟨fun j hj => absurd hj (Nat.not_lt_zero _), h0⟩
    · rw [if_neg h0]
      have h0' : Lib.occAt (b :: l) sub 0 = false := Bool.eq_false_iff.2 h0
      by_cases h1 : (Lib.index l sub == -1) = true
      · rw [if_pos h1]
        have e := beq_iff_eq.1 h1
        refine ⟨fun _ j hj => ?_, fun x h => by omega⟩
        cases j with
        | zero => exact h0'
        | succ j => exact ih1 e j (by simpa using hj)
      · rw [if_neg h1]
        have e : Lib.index l sub ≠ -1 := fun e => h1 (beq_iff_eq.2 e)
        refine ⟨fun h => by omega, fun x h => ?_⟩
        obtain ⟨y, hy⟩ : ∃ y : Nat, Lib.index l sub = y := ⟨(Lib.index l sub).toNat, by omega⟩
        obtain rfl : x = y + 1 := by omega
        obtain ⟨i1, i2⟩ := ih2 y hy
        refine ⟨fun j hj => ?_, i2⟩
        cases j with
        | zero => exact h0'
        | succ j => exact i1 j (by omega)

theorem occAt_take {l sub : List UInt8} {i : Nat} (h : Lib.occAt l sub i = true) : (l.drop i).take sub.length = sub := by
  unfold Lib.occAt at h
  exact (List.prefix_iff_eq_take.1 (List.isPrefixOf_iff_prefix.1 h)).symm
theorem take_occAt {l sub : List UInt8} {i : Nat} (h : (l.drop i).take sub.length = sub) : Lib.occAt l sub i = true := by
  unfold Lib.occAt
  exact List.isPrefixOf_iff_prefix.2 (List.prefix_iff_eq_take.2 h.symm)

/-! ### chains of pieces -/
/-- Pieces from i on, the separator between them, to the text's end. -/
def Chn (s sep : ByteArray) : Nat → List (Nat × Nat) → Prop
  | _, [] => False
  | i, [p] => p = (i, s.size) ∧ i ≤ s.size
  | i, p :: q :: r => p.1 = i ∧ i ≤ p.2 ∧ p.2 + sep.size ≤ s.size ∧ ((bytesOf s).drop p.2).take sep.size = bytesOf sep ∧ Chn s sep (p.2 + sep.size) (q :: r)
/-- Put together with sep between. -/
def jl (sep : List Int) : List (List Int) → List Int
  | [] => []
  | [x] => x
  | x :: y :: r => x ++ (sep ++ jl sep (y :: r))
def ext (s : ByteArray) (l : List (Nat × Nat)) : List ByteArray := l.map fun p => s.extract p.1 p.2

theorem drop_split (L : List Int) (a b : Nat) (h : a ≤ b) : L.drop a = (L.drop a).take (b - a) ++ L.drop b := by
  have := (List.take_append_drop (b - a) (L.drop a)).symm
  rwa [List.drop_drop, show a + (b - a) = b by omega] at this
theorem chn_join (s sep : ByteArray) : ∀ (l : List (Nat × Nat)) (i : Nat), Chn s sep i l → jl (bytesOf sep) ((ext s l).map bytesOf) = (bytesOf s).drop i
  | [], _, h => h.elim
  | [p], i, h => by
    obtain ⟨rfl, hi⟩ := h
    show bytesOf (s.extract i s.size) = _
    rw [bytesOf_extract, List.take_of_length_le (by rw [List.length_drop, bytesOf_len]; exact Nat.le_refl _)]
  | p :: q :: r, i, h => by
    obtain ⟨rfl, h1, h2, h3, h4⟩ := h
    have ih := chn_join s sep (q :: r) _ h4
    show bytesOf (s.extract p.1 p.2) ++ (bytesOf sep ++ jl (bytesOf sep) ((ext s (q :: r)).map bytesOf)) = _
    rw [ih, bytesOf_extract, drop_split (bytesOf s) p.1 p.2 h1]
    congr 1
    · rw [← drop_split (bytesOf s) p.1 p.2 h1]
    · rw [drop_split (bytesOf s) p.2 (p.2 + sep.size) (by omega), show p.2 + sep.size - p.2 = sep.size by omega, h3]
/-- The last of n + 1 is all the rest. -/
def cutOff (s : ByteArray) (n : Nat) (l : List (Nat × Nat)) : List (Nat × Nat) := if l.length ≤ n then l else l.take n ++ [((l.getD n (0, 0)).1, s.size)]
theorem chn_cutOff (s sep : ByteArray) : ∀ (n : Nat) (l : List (Nat × Nat)) (i : Nat), Chn s sep i l → Chn s sep i (cutOff s n l)
  | _, [], _, h => h.elim
  | 0, [p], i, h => by
    obtain ⟨rfl, hi⟩ := h
    exact ⟨rfl, hi⟩
  | n + 1, [p], i, h => by
    unfold cutOff
    rw [if_pos (by simp)]
    exact h
  | 0, p :: q :: r, i, h => by
    obtain ⟨rfl, h1, h2, h3, h4⟩ := h
    refine ⟨rfl, by omega⟩
  | n + 1, p :: q :: r, i, h => by
    obtain ⟨rfl, h1, h2, h3, h4⟩ := h
    have ih := chn_cutOff s sep n (q :: r) _ h4
    unfold cutOff at ih ⊢
    by_cases hl : (q :: r).length ≤ n
    · rw [if_pos (by simpa using hl)]
      rw [if_pos hl] at ih
      exact ⟨rfl, h1, h2, h3, ih⟩
    · rw [if_neg (by simpa using hl)]
      rw [if_neg hl] at ih
      have e : (p :: q :: r).take (n + 1) ++ [(((p :: q :: r).getD (n + 1) (0, 0)).1, s.size)] = p :: ((q :: r).take n ++ [(((q :: r).getD n (0, 0)).1, s.size)]) := by simp
      rw [e]
      cases hx : (q :: r).take n ++ [(((q :: r).getD n (0, 0)).1, s.size)] with
      | nil => simp at hx
      | cons a b =>
        rw [hx] at ih
        exact ⟨rfl, h1, h2, h3, ih⟩
theorem chn_last (s sep : ByteArray) : ∀ (l : List (Nat × Nat)) (i n : Nat), Chn s sep i l → l.length = n + 1 → l.take n ++ [((l.getD n (0, 0)).1, s.size)] = l
  | [], _, _, h, _ => h.elim
  | [p], i, n, h, hn => by
    obtain ⟨rfl, hi⟩ := h
    obtain rfl : n = 0 := by simpa using hn.symm
    rfl
  | p :: q :: r, i, n, h, hn => by
    obtain ⟨rfl, h1, h2, h3, h4⟩ := h
    obtain ⟨m, rfl⟩ : ∃ m, n = m + 1 := ⟨n - 1, by simp at hn; omega⟩
    have ih := chn_last s sep (q :: r) _ m h4 (by simpa using hn)
    simpa using ih
theorem fieldsG_cutOff (s : ByteArray) (l : List (Nat × Nat)) : fieldsG s s.size l = ext s (cutOff s 32767 l) := by
  unfold fieldsG ext cutOff
  split
  · rfl
  · rw [List.map_append]; rfl
theorem cutOff_len (s : ByteArray) (l : List (Nat × Nat)) (n : Nat) : (cutOff s n l).length ≤ n + 1 := by
  unfold cutOff
  split
  · omega
  · simp; omega
theorem cutOff_same (s sep : ByteArray) (l : List (Nat × Nat)) (h : Chn s sep 0 l) (n : Nat) (hl : l.length ≤ n + 1) : cutOff s n l = l := by
  unfold cutOff
  split
  · rfl
  · exact chn_last s sep l 0 n h (by omega)
theorem cutOff_at (s : ByteArray) (l : List (Nat × Nat)) (n j : Nat) (hj : j < n) (p : Nat × Nat) (h : (cutOff s n l)[j]? = some p) : p ∈ l := by
  unfold cutOff at h
  split at h
  · exact List.mem_of_getElem? h
  · rw [List.getElem?_append_left (by simp; omega)] at h
    exact List.mem_of_mem_take (List.mem_of_getElem? h)

theorem chn_singles (s sep : ByteArray) (h0 : sep.size = 0) (i : Nat) (hi : i < s.size) : Chn s sep i (singlesFrom s i) := by
  have hsep : bytesOf sep = [] := List.eq_nil_of_length_eq_zero (by rw [bytesOf_len, h0])
  fun_induction singlesFrom s i with
  | case1 i h ih =>
    by_cases h1 : i + 1 < s.size
    · have ih' := ih h1
      rw [singlesFrom_go h1] at ih' ⊢
      refine ⟨rfl, Nat.le_succ _, by rw [h0]; omega, by rw [h0, hsep]; rfl, ?_⟩
      rw [h0]
      exact ih'
    · rw [singlesFrom_end h1]
      have : i + 1 = s.size := by omega
      exact ⟨by rw [this], by omega⟩
  | case2 i h => exact absurd hi h
theorem chn_cuts (s sep : ByteArray) (h1 : 1 ≤ sep.size) (i : Nat) (hi : i ≤ s.size) : Chn s sep i (cutsFrom s sep i) := by
  fun_induction cutsFrom s sep i with
  | case1 i h ih =>
    obtain ⟨x, hx⟩ : ∃ x : Nat, ixAt s sep i = x := ⟨(ixAt s sep i).toNat, by omega⟩
    have e : (ixAt s sep i).toNat = x := by omega
    rw [e] at h ih ⊢
    have ih' := ih (by omega)
    have hocc := ((index_spec _ _).2 x hx).2
    have ht := occAt_take hocc
    have hne : cutsFrom s sep (i + x + sep.size) ≠ [] := by
      rw [cutsFrom]; split <;> simp
    cases hc : cutsFrom s sep (i + x + sep.size) with
    | nil => exact absurd hc hne
    | cons q r =>
      rw [hc] at ih'
      refine ⟨rfl, by simp, by simp; omega, ?_, ih'⟩
      show ((bytesOf s).drop (i + x)).take sep.size = bytesOf sep
      rw [extract_dataL, List.drop_take, List.drop_drop, List.take_take] at ht
      have hl : sep.data.toList.length = sep.size := Array.length_toList
      rw [hl, show min sep.size (s.size - i - x) = sep.size by omega] at ht
      rw [bytesOf_def, bytesOf_def, ← List.map_drop, ← List.map_take, ht]
  | case2 i h => exact ⟨rfl, hi⟩

/-- No piece holds the separator. -/
theorem cuts_free (s sep : ByteArray) (h1 : 1 ≤ sep.size) (i : Nat) (hi : i ≤ s.size) : ∀ p ∈ cutsFrom s sep i, p.1 ≤ p.2 ∧ p.2 ≤ s.size ∧ ∀ t, p.1 + t + sep.size ≤ p.2 → ((s.data.toList.drop (p.1 + t)).take sep.size) ≠ sep.data.toList := by
  have hl : sep.data.toList.length = sep.size := Array.length_toList
  have key : ∀ t x : Nat, t + sep.size ≤ x → i + x ≤ s.size → Lib.occAt (s.extract i s.size).data.toList sep.data.toList t = false → (s.data.toList.drop (i + t)).take sep.size ≠ sep.data.toList := by
    intro t x ht hx ho he
    have : Lib.occAt (s.extract i s.size).data.toList sep.data.toList t = true := by
      apply take_occAt
      rw [extract_dataL, List.drop_take, List.drop_drop, List.take_take, hl, show min sep.size (s.size - i - t) = sep.size by omega, he]
    rw [this] at ho
    cases ho
  fun_induction cutsFrom s sep i with
  | case1 i h ih =>
    obtain ⟨x, hx⟩ : ∃ x : Nat, ixAt s sep i = x := ⟨(ixAt s sep i).toNat, by omega⟩
    have e : (ixAt s sep i).toNat = x := by omega
    rw [e] at h ih ⊢
    intro p hp
    rcases List.mem_cons.1 hp with rfl | hp
    · refine ⟨by simp, by simp; omega, fun t ht => ?_⟩
      simp only at ht
      exact key t x (by omega) (by omega) (((index_spec _ _).2 x hx).1 t (by omega))
    · refine ih (by omega) ?_ p hp
      intro t x' ht hx' ho he
      have : Lib.occAt (s.extract (i + x + sep.size) s.size).data.toList sep.data.toList t = true := by
        apply take_occAt
        rw [extract_dataL, List.drop_take, List.drop_drop, List.take_take, hl, show min sep.size (s.size - (i + x + sep.size) - t) = sep.size by omega, he]
      rw [this] at ho
      cases ho
  | case2 i h =>
    intro p hp
    obtain rfl := List.mem_singleton.1 hp
    have hm : ixAt s sep i = -1 := by
      rcases ixAt_cases s sep i hi with h2 | ⟨x, h2, h3⟩
      · exact h2
      · exact absurd ⟨by omega, h1, by omega⟩ h
    refine ⟨hi, Nat.le_refl _, fun t ht => ?_⟩
    simp only at ht
    have hsz : (s.extract i s.size).data.toList.length = s.size - i := by
      rw [extract_dataL, List.length_take, List.length_drop]
      have : s.data.toList.length = s.size := Array.length_toList
      omega
    exact key t (s.size - i) (by omega) (by omega) ((index_spec _ _).1 hm t (by omega))

/-- strings.Split's pieces. -/
theorem split_cuts (s sep : ByteArray) (h1 : 1 ≤ sep.size) (i : Nat) (hi : i ≤ s.size) : Lib.splitB sep 0 (Lib.countB (s.extract i s.size) sep) (s.extract i s.size) = ext s (cutsFrom s sep i) := by
  fun_induction cutsFrom s sep i with
  | case1 i h ih =>
    obtain ⟨x, hx⟩ : ∃ x : Nat, ixAt s sep i = x := ⟨(ixAt s sep i).toNat, by omega⟩
    have e : (ixAt s sep i).toNat = x := by omega
    rw [e] at h ih ⊢
    have hsz : (s.extract i s.size).size = s.size - i := by simp
    have hext : (s.extract i s.size).extract (x + sep.size) (s.extract i s.size).size = s.extract (i + x + sep.size) s.size := by
      rw [extract_extract s i _ _ hi (by rw [hsz]; omega), hsz, show i + (x + sep.size) = i + x + sep.size by omega, show i + (s.size - i) = s.size by omega]
    have hc := Lib.countB_hit (s.extract i s.size) sep x h1 hx
    rw [hext] at hc
    rw [hc, Nat.add_comm 1, Lib.splitB_hit sep 0 _ (s.extract i s.size) x hx, hext, ih (by omega), extract_extract s i 0 (x + 0) hi (by omega)]
    rfl
  | case2 i h =>
    have hm : Lib.indexB (s.extract i s.size) sep = -1 := by
      rcases ixAt_cases s sep i hi with h2 | ⟨x, h2, h3⟩
      · exact h2
      · exact absurd ⟨by omega, h1, by omega⟩ h
    rw [Lib.splitB_miss sep 0 _ _ hm]
    rfl
end Go.Proofs.YtlklnenlhmhcaaaDoor.Plain
