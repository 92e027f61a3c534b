/- RecordRejoins answers true, in plain words; conditions: the text and the separator of at most 2^20 bytes. -/
import Derived.Test.YtmbacdkpgfbclaaGreatDoorPXJx1
namespace Go.Proofs.YtmbacdkpgfbclaaGreatDoor.Plain
open Go.RowKit Go.Proofs.YtmbacdkpgfbclaaGreatDoor Go.Proofs.YtmbacdkpgfbclaaGreatDoor.PXJ Go.Proofs.YtmbacdkpgfbclaaGreatDoorW.PrintWords Go.Proofs.YtmbacdkpgfbclaaGreatDoorW.PrintLast

theorem wrap_nat {i : Nat} (h : i ≤ 140737488355392) : wrap64 ((i : Int) + 1) = ((i + 1 : Nat) : Int) := by
 unfold wrap64; omega
theorem wrap_add {i j : Nat} (h : i + j ≤ 140737488355392) : wrap64 ((i : Int) + (j : Int)) = ((i + j : Nat) : Int) := by
 unfold wrap64; omega
theorem extract_dataL (s : ByteArray) (a b : Nat) : (s.extract a b).data.toList = (s.data.toList.drop a).take (b - a) := by
 obtain ⟨⟨l⟩⟩ := s; rw [ByteArray.extract_mk]
theorem ext_data {a b : ByteArray} (h : a.data.toList = b.data.toList) : a = b := by
 cases a; cases b; exact congrArg _ (Array.toList_inj.1 h)
theorem bytesOf_def (s : ByteArray) : bytesOf s = s.data.toList.map fun b => (b.toNat : Int) := rfl
theorem bytesOf_extract (s : ByteArray) (a b : Nat) : bytesOf (s.extract a b) = ((bytesOf s).drop a).take (b - a) := by
 rw [bytesOf_def, bytesOf_def, extract_dataL, List.map_take, List.map_drop]
theorem bytesOf_len (s : ByteArray) : (bytesOf s).length = s.size := by
 rw [bytesOf_def, List.length_map]; exact Array.length_toList

/-! ### Lib.index: the first instance -/
theorem index_spec : ∀ (s sub : List UInt8), (Lib.index s sub = -1 → ∀ j, j ≤ s.length → Lib.occAt s sub j = false) ∧ (∀ x : Nat, Lib.index s sub = x → (∀ j, j < x → Lib.occAt s sub j = false) ∧ Lib.occAt s sub x = true)
 | [], sub => by
  unfold Lib.index
  refine ⟨fun h j hj => ?_, fun x h => ?_⟩
  ·
   split at h
   ·
    exact absurd h (by decide)
   ·
    rename_i he
    obtain rfl : j = 0 := by simpa using hj
    cases sub with
    | nil => exact absurd rfl he
    | cons c t => rfl
  ·
   split at h
   ·
    rename_i he
    obtain rfl : x = 0 := by omega
    exact ⟨fun j hj => absurd hj (Nat.not_lt_zero _), by cases sub with | nil => rfl | cons c t => exact absurd he (by simp)⟩
   ·
    omega
 | b :: l, sub => by
  obtain ⟨ih1, ih2⟩ := index_spec l sub
  unfold Lib.index
  have hge := Lib.index_ge l sub
  by_cases h0 : sub.isPrefixOf (b :: l) = true
  ·
   rw [if_pos h0]
   refine ⟨fun h => absurd h (by decide), fun x h => ?_⟩
   obtain rfl : x = 0 := by omega
   exact ⟨fun j hj => absurd hj (Nat.not_lt_zero _), h0⟩
  ·
   rw [if_neg h0]
   have h0' : Lib.occAt (b :: l) sub 0 = false := Bool.eq_false_iff.2 h0
   by_cases h1 : (Lib.index l sub == -1) = true
   ·
    rw [if_pos h1]
    have e := beq_iff_eq.1 h1
    refine ⟨fun _ j hj => ?_, fun x h => by omega⟩
    cases j with
    | zero => exact h0'
    | succ j => exact ih1 e j (by simpa using hj)
   ·
    rw [if_neg h1]
    have e : Lib.index l sub ≠ -1 := fun e => h1 (beq_iff_eq.2 e)
    refine ⟨fun h => by omega, fun x h => ?_⟩
    obtain ⟨y, hy⟩ : ∃ y : Nat, Lib.index l sub = y := ⟨(Lib.index l sub).toNat, by omega⟩
    obtain rfl : x = y + 1 := by omega
    obtain ⟨i1, i2⟩ := ih2 y hy
    refine ⟨fun j hj => ?_, i2⟩
    cases j with
    | zero => exact h0'
    | succ j => exact i1 j (by omega)

theorem occAt_take {l sub : List UInt8} {i : Nat} (h : Lib.occAt l sub i = true) : (l.drop i).take sub.length = sub := by
 unfold Lib.occAt at h; exact (List.prefix_iff_eq_take.1 (List.isPrefixOf_iff_prefix.1 h)).symm
theorem take_occAt {l sub : List UInt8} {i : Nat} (h : (l.drop i).take sub.length = sub) : Lib.occAt l sub i = true := by
 unfold Lib.occAt; exact List.isPrefixOf_iff_prefix.2 (List.prefix_iff_eq_take.2 h.symm)

/-! ### chains of pieces -/
/-- Pieces from i on, the separator between them, to the text's end. -/
def Chn (s sep : ByteArray) : Nat → List (Nat × Nat) → Prop
 | _, [] => False
 | i, [p] => p = (i, s.size) ∧ i ≤ s.size
 | i, p :: q :: r => p.1 = i ∧ i ≤ p.2 ∧ p.2 + sep.size ≤ s.size ∧ ((bytesOf s).drop p.2).take sep.size = bytesOf sep ∧ Chn s sep (p.2 + sep.size) (q :: r)
/-- Put together with sep between. -/
def jl (sep : List Int) : List (List Int) → List Int
 | [] => []
 | [x] => x
 | x :: y :: r => x ++ (sep ++ jl sep (y :: r))
def ext (s : ByteArray) (l : List (Nat × Nat)) : List ByteArray := l.map fun p => s.extract p.1 p.2

theorem drop_split (L : List Int) (a b : Nat) (h : a ≤ b) : L.drop a = (L.drop a).take (b - a) ++ L.drop b := by
 have := (List.take_append_drop (b - a) (L.drop a)).symm; rwa [List.drop_drop, show a + (b - a) = b by omega] at this
theorem chn_join (s sep : ByteArray) : ∀ (l : List (Nat × Nat)) (i : Nat), Chn s sep i l → jl (bytesOf sep) ((ext s l).map bytesOf) = (bytesOf s).drop i
 | [], _, h => h.elim
 | [p], i, h => by
  obtain ⟨rfl, hi⟩ := h
  show bytesOf (s.extract i s.size) = _
  rw [bytesOf_extract, List.take_of_length_le (by rw [List.length_drop, bytesOf_len]; exact Nat.le_refl _)]
 | p :: q :: r, i, h => by
  obtain ⟨rfl, h1, h2, h3, h4⟩ := h
  have ih := chn_join s sep (q :: r) _ h4
  show bytesOf (s.extract p.1 p.2) ++ (bytesOf sep ++ jl (bytesOf sep) ((ext s (q :: r)).map bytesOf)) = _
  rw [ih, bytesOf_extract, drop_split (bytesOf s) p.1 p.2 h1]
  congr 1
  ·
   rw [← drop_split (bytesOf s) p.1 p.2 h1]
  ·
   rw [drop_split (bytesOf s) p.2 (p.2 + sep.size) (by omega), show p.2 + sep.size - p.2 = sep.size by omega, h3]
/-- The last of n + 1 is all the rest. -/
def cutOff (s : ByteArray) (n : Nat) (l : List (Nat × Nat)) : List (Nat × Nat) := if l.length ≤ n then l else l.take n ++ [((l.getD n (0, 0)).1, s.size)]
theorem chn_cuts (s sep : ByteArray) (h1 : 1 ≤ sep.size) (i : Nat) (hi : i ≤ s.size) : Chn s sep i (cutsFrom s sep i) := by
 fun_induction cutsFrom s sep i with
 | case1 i h ih =>
  obtain ⟨x, hx⟩ : ∃ x : Nat, ixAt s sep i = x := ⟨(ixAt s sep i).toNat, by omega⟩; have e : (ixAt s sep i).toNat = x := by omega
  rw [e] at h ih ⊢; have ih' := ih (by omega); have hocc := ((index_spec _ _).2 x hx).2; have ht := occAt_take hocc; have hne : cutsFrom s sep (i + x + sep.size) ≠ [] := by
   rw [cutsFrom]; split <;> simp
  cases hc : cutsFrom s sep (i + x + sep.size) with
  | nil => exact absurd hc hne
  | cons q r =>
   rw [hc] at ih'; refine ⟨rfl, by simp, by simp; omega, ?_, ih'⟩; show ((bytesOf s).drop (i + x)).take sep.size = bytesOf sep; rw [extract_dataL, List.drop_take, List.drop_drop, List.take_take] at ht; have hl : sep.data.toList.length = sep.size := Array.length_toList; rw [hl, show min sep.size (s.size - i - x) = sep.size by omega] at ht; rw [bytesOf_def, bytesOf_def, ← List.map_drop, ← List.map_take, ht]
 | case2 i h => exact ⟨rfl, hi⟩

/-- No piece holds the separator. -/
theorem cuts_free (s sep : ByteArray) (h1 : 1 ≤ sep.size) (i : Nat) (hi : i ≤ s.size) : ∀ p ∈ cutsFrom s sep i, p.1 ≤ p.2 ∧ p.2 ≤ s.size ∧ ∀ t, p.1 + t + sep.size ≤ p.2 → ((s.data.toList.drop (p.1 + t)).take sep.size) ≠ sep.data.toList := by
 have hl : sep.data.toList.length = sep.size := Array.length_toList; have key : ∀ t x : Nat, t + sep.size ≤ x → i + x ≤ s.size → Lib.occAt (s.extract i s.size).data.toList sep.data.toList t = false → (s.data.toList.drop (i + t)).take sep.size ≠ sep.data.toList := by
  intro t x ht hx ho he; have : Lib.occAt (s.extract i s.size).data.toList sep.data.toList t = true := by
   apply take_occAt; rw [extract_dataL, List.drop_take, List.drop_drop, List.take_take, hl, show min sep.size (s.size - i - t) = sep.size by omega, he]
  rw [this] at ho; cases ho
 fun_induction cutsFrom s sep i with
 | case1 i h ih =>
  obtain ⟨x, hx⟩ : ∃ x : Nat, ixAt s sep i = x := ⟨(ixAt s sep i).toNat, by omega⟩; have e : (ixAt s sep i).toNat = x := by omega
  rw [e] at h ih ⊢; intro p hp; rcases List.mem_cons.1 hp with rfl | hp
  · refine ⟨by simp, by simp; omega, fun t ht => ?_⟩; simp only at ht; exact key t x (by omega) (by omega) (((index_spec _ _).2 x hx).1 t (by omega))
  refine ih (by omega) ?_ p hp; intro t x' ht hx' ho he; have : Lib.occAt (s.extract (i + x + sep.size) s.size).data.toList sep.data.toList t = true := by
   apply take_occAt; rw [extract_dataL, List.drop_take, List.drop_drop, List.take_take, hl, show min sep.size (s.size - (i + x + sep.size) - t) = sep.size by omega, he]
  rw [this] at ho; cases ho
 | case2 i h =>
  intro p hp; obtain rfl := List.mem_singleton.1 hp; have hm : ixAt s sep i = -1 := by
   rcases ixAt_cases s sep i hi with h2 | ⟨x, h2, h3⟩
   · exact h2
   exact absurd ⟨by omega, h1, by omega⟩ h
  refine ⟨hi, Nat.le_refl _, fun t ht => ?_⟩; simp only at ht; have hsz : (s.extract i s.size).data.toList.length = s.size - i := by
   rw [extract_dataL, List.length_take, List.length_drop]; have : s.data.toList.length = s.size := Array.length_toList; omega
  exact key t (s.size - i) (by omega) (by omega) ((index_spec _ _).1 hm t (by omega))
end Go.Proofs.YtmbacdkpgfbclaaGreatDoor.Plain
namespace Go.Proofs.YtmbacdkpgfbclaaGreatDoor.Plain
open Go.RowKit Go.Proofs.YtmbacdkpgfbclaaGreatDoor Go.Proofs.YtmbacdkpgfbclaaGreatDoor.PXJ Go.Proofs.YtmbacdkpgfbclaaGreatDoorW.PrintWords Go.Proofs.YtmbacdkpgfbclaaGreatDoorW.PrintLast

theorem rdOf_nat (F : List ByteArray) {i : Nat} (hlt : i < F.length) : rdOf ByteArray.empty F (i : Int) = F[i] := by
 unfold rdOf; rw [Int.toNat_natCast, List.getD_eq_getElem?_getD, List.getElem?_eq_getElem hlt]; rfl
theorem toList_data (s : ByteArray) : s.toList = s.data.toList := ByteArray.toList_eq s
theorem size_of_toList {s : ByteArray} (h : s.toList = []) : s.size = 0 := by
 rw [toList_data] at h; have := data_length s; rw [h] at this; exact this.symm
theorem str_bytes (s : ByteArray) : strOfNums (bytesOf s) = s := by
 apply ext_data; rw [strOfNums_data]; unfold bytesOf; rw [List.map_map]; refine (List.map_congr_left fun b _ => ?_).trans (List.map_id _); simp

/-! ### joined -/
/-- What is still to come behind i fields. -/
def restJ (F : List ByteArray) (sep : ByteArray) (i : Nat) : List Int :=
 if i < F.length then (if i = 0 then [] else bytesOf sep) ++ jl (bytesOf sep) ((F.drop i).map bytesOf) else []
theorem restJ_step (F : List ByteArray) (sep : ByteArray) {i : Nat} (h : i < F.length) : restJ F sep i = (if i = 0 then [] else bytesOf sep) ++ (bytesOf F[i] ++ restJ F sep (i + 1)) := by
 unfold restJ; rw [if_pos h, List.drop_eq_getElem_cons h, List.map_cons]; by_cases h2 : i + 1 < F.length
 · rw [if_pos h2, List.drop_eq_getElem_cons h2, List.map_cons, if_neg (Nat.succ_ne_zero i)]; rfl
 rw [if_neg h2, List.drop_of_length_le (by omega), List.append_nil]; rfl
theorem joined_ev (F : List ByteArray) (sep : ByteArray) (hF : F.length ≤ 1073741824) (hT : (jl (bytesOf sep) (F.map bytesOf)).length ≤ 1073741824) :
  Ev (fun k => abacuslaw21_joined.f k F sep) (strOfNums (jl (bytesOf sep) (F.map bytesOf))) := by
 generalize hTT : jl (bytesOf sep) (F.map bytesOf) = T at hT ⊢; have go : ∀ (d i : Nat) (x5 : List Int), F.length - i = d → i ≤ F.length → x5 ++ restJ F sep i = T →
   Ev (fun k => abacuslaw21_joined.l0 k F sep x5 (i : Int)) (strOfNums T) := by
  intro d; induction d with
  | zero =>
   intro i x5 hd hi hx; rw [restJ, if_neg (by omega), List.append_nil] at hx; refine Ev.step (f := fun _ => some (strOfNums T)) (fun k => ?_) (Ev.now _); simp only [abacuslaw21_joined.l0]; rw [if_neg (by omega), hx]
  | succ d ih =>
   intro i x5 hd hi hx; have hlt : i < F.length := by omega
   rw [restJ_step F sep hlt] at hx; have hlen := congrArg List.length hx; by_cases h0 : i = 0
   · subst h0; simp only [if_pos, List.nil_append, List.length_append, bytesOf_length] at hlen hx; refine Ev.step (fun k => ?_) (ih (0 + 1) (x5 ++ bytesOf F[0]) (by omega) (by omega) (by rw [List.append_assoc]; exact hx)); simp only [abacuslaw21_joined.l0]; rw [if_pos (by omega), rdOf_nat F hlt, wrap_nat (by omega), if_neg (by omega), if_pos (by omega), if_pos (by omega)]
   rw [if_neg h0] at hx hlen; simp only [List.length_append, bytesOf_length] at hlen; refine Ev.step (fun k => ?_) (ih (i + 1) (x5 ++ bytesOf sep ++ bytesOf F[i]) (by omega) (by omega) (by simp only [List.append_assoc]; exact hx)); simp only [abacuslaw21_joined.l0]; rw [if_pos (by omega), rdOf_nat F hlt, wrap_nat (by omega), if_pos (by omega), if_pos (by omega)]; simp only [Option.bind_some, List.length_append, bytesOf_length]; rw [if_pos (by omega), if_pos (by omega)]
 refine go F.length 0 [] (by omega) (by omega) ?_; rw [List.nil_append, restJ]; split
 · rw [if_pos rfl, List.nil_append, List.drop_zero]; exact hTT
 have : F = [] := List.eq_nil_of_length_eq_zero (by omega); subst this; exact hTT

/-! ### holds -/
theorem holds_ev (x sep : ByteArray) (hx : x.size ≤ 1073741824) (hs : sep.size ≤ 1073741824) (h : ∀ t, t + sep.size ≤ x.size → (x.data.toList.drop t).take sep.size ≠ sep.data.toList) : Ev (fun k => abacuslaw21_holds.f k x sep) false := by
 have go : ∀ (d t : Nat), x.size + 1 - t = d → t ≤ x.size + 1 → Ev (fun k => abacuslaw21_holds.l0 k x sep (t : Int)) false := by
  intro d; induction d with
  | zero =>
   intro t hd ht; refine Ev.step (f := fun _ => some false) (fun k => ?_) (Ev.now _); simp only [abacuslaw21_holds.l0]; rw [wrap_add (by omega), if_neg (by omega)]
  | succ d ih =>
   intro t hd ht; by_cases hr : t + sep.size ≤ x.size
   ·
    refine Ev.step (fun k => ?_) (ih (t + 1) (by omega) (by omega)); simp only [abacuslaw21_holds.l0]; have hne : ¬ (x.extract (t : Int).toNat ((t + sep.size : Nat) : Int).toNat).toList = sep.toList := by
     rw [toList_data, toList_data, extract_dataL, Int.toNat_natCast, Int.toNat_natCast, show t + sep.size - t = sep.size by omega]; exact h t hr
    rw [wrap_add (by omega), if_pos (by omega), if_pos (by omega), if_pos (by omega), if_neg hne, wrap_nat (by omega)]
   refine Ev.step (f := fun _ => some false) (fun k => ?_) (Ev.now _); simp only [abacuslaw21_holds.l0]; rw [wrap_add (by omega), if_neg (by omega)]
 exact go (x.size + 1) 0 (by omega) (by omega)


theorem endL_of {s : ByteArray} {p : Nat × Nat} (h : ¬ (p.2 = s.size ∧ p.1 = p.2)) : endL s p = false := by
 unfold endL; by_cases h1 : p.2 = s.size
 ·
  by_cases h2 : p.1 = p.2
  · exact absurd ⟨h1, h2⟩ h
  rw [beq_eq_false_iff_ne.mpr h2, Bool.and_false]
 rw [beq_eq_false_iff_ne.mpr h1, Bool.false_and]
theorem endL_end {s : ByteArray} : endL s (s.size, s.size) = true := by unfold endL; simp
/-- The cuts: none is the empty end, and the last is not empty; or the last is the empty end. -/
theorem cuts_shape (s sep : ByteArray) (h1 : 1 ≤ sep.size) (i : Nat) (hi : i ≤ s.size) :
  (∃ D j, cutsFrom s sep i = D ++ [(j, s.size)] ∧ j < s.size ∧ ∀ p ∈ D ++ [(j, s.size)], endL s p = false) ∨
  (∃ D, cutsFrom s sep i = D ++ [(s.size, s.size)] ∧ (D = [] → i = s.size) ∧ ∀ p ∈ D, endL s p = false) := by
 fun_induction cutsFrom s sep i with
 | case1 i h ih =>
  have hf : endL s (i, i + (ixAt s sep i).toNat) = false := endL_of (by intro hh; have := hh.1; simp only at this; omega); rcases ih h.2.2 with ⟨D, j, e, hj, hD⟩ | ⟨D, e, -, hD⟩
  ·
   refine .inl ⟨(i, i + (ixAt s sep i).toNat) :: D, j, by rw [e]; rfl, hj, ?_⟩; intro p hp; rcases List.mem_cons.1 hp with rfl | hp
   · exact hf
   exact hD p hp
  refine .inr ⟨(i, i + (ixAt s sep i).toNat) :: D, by rw [e]; rfl, (fun h => by cases h), ?_⟩; intro p hp; rcases List.mem_cons.1 hp with rfl | hp
  · exact hf
  exact hD p hp
 | case2 i h =>
  by_cases he : i = s.size
  · subst he; exact .inr ⟨[], rfl, fun _ => rfl, fun p hp => by cases hp⟩
  refine .inl ⟨[], i, rfl, by omega, fun p hp => ?_⟩; rw [List.nil_append, List.mem_singleton] at hp; subst hp; exact endL_of (by intro hh; exact he hh.2)
theorem jl_end (sep : List Int) : ∀ (L : List (List Int)), L ≠ [] → jl sep (L ++ [[]]) = jl sep L ++ sep
 | [], h => absurd rfl h
 | [x], _ => by simp [jl]
 | x :: y :: r, _ => by
  have ih := jl_end sep (y :: r) (by simp)
  show x ++ (sep ++ jl sep (y :: r ++ [[]])) = (x ++ (sep ++ jl sep (y :: r))) ++ sep
  rw [ih]
  simp
theorem bytes_append (a b : ByteArray) : bytesOf (a ++ b) = bytesOf a ++ bytesOf b := by
 unfold bytesOf; simp
theorem bytes_inj {a b : ByteArray} (h : bytesOf a = bytesOf b) : a = b := by
 have := congrArg strOfNums h; rwa [str_bytes, str_bytes] at this
theorem main (s rs : ByteArray) (hs : s.size ≤ 1048576) (hr : rs.size ≤ 1048576) : ∃ k, abacuslaw21_RecordRejoins.f k s rs = some true := by
 refine Ev.rounds (g := fun k => abacuslaw21_RecordRejoins.f k s rs) ?_; by_cases he : rs.toList = ([] : List UInt8)
 · refine Ev.congr (f := fun _ => some true) (fun k => ?_) (Ev.now _); unfold abacuslaw21_RecordRejoins.f; rw [show abacuslaw21_awake.f = some true from rfl, Option.bind_some, if_pos rfl, if_pos he]
 have h1 : 1 ≤ rs.size := by
  rcases Nat.eq_zero_or_pos rs.size with h | h
  · exact absurd (by rw [toList_data]; exact List.eq_nil_of_length_eq_zero (by rw [data_length, h])) he
  exact h
 have hL : record_Lines.f s rs = some (linesOf s rs) := if_pos ⟨by omega, h1⟩; have start : Ev (fun k => if ((linesOf s rs).length : Int) = 0 then (some (s.toList == ([] : List UInt8))) else (abacuslaw21_RecordRejoins.l0 k s rs (linesOf s rs) 0)) true → Ev (fun k => abacuslaw21_RecordRejoins.f k s rs) true := by
  intro h; refine Ev.congr (fun k => ?_) h; unfold abacuslaw21_RecordRejoins.f; rw [show abacuslaw21_awake.f = some true from rfl, Option.bind_some, if_pos rfl, if_neg he, hL, Option.bind_some]
 refine start ?_; have hchn := chn_cuts s rs h1 0 (Nat.zero_le _); have hjl := chn_join s rs _ 0 hchn; rw [List.drop_zero] at hjl; have hfree := cuts_free s rs h1 0 (Nat.zero_le _); -- what the lines are
 obtain ⟨D, hD, hmem, hcase⟩ : ∃ D : List (Nat × Nat), linesOf s rs = ext s D ∧ (∀ p ∈ D, p ∈ cutsFrom s rs 0) ∧
   ((D ≠ [] ∧ jl (bytesOf rs) ((ext s D).map bytesOf) = bytesOf s ∧ ∃ j, D.getLast? = some (j, s.size) ∧ j < s.size) ∨ (D = [] ∧ s.size = 0) ∨ (D ≠ [] ∧ jl (bytesOf rs) ((ext s D).map bytesOf) ++ bytesOf rs = bytesOf s)) := by
  rcases cuts_shape s rs h1 0 (Nat.zero_le _) with ⟨D, j, e, hj, hn⟩ | ⟨D, e, h0, hn⟩
  · refine ⟨D ++ [(j, s.size)], ?_, fun p hp => by rw [e]; exact hp, .inl ⟨by simp, by rw [← e]; exact hjl, j, by simp, hj⟩⟩; unfold linesOf linesL; rw [e, takeWhile_none _ _ (fun p hp => by simp [hn p hp])]; rfl
  have hl : linesOf s rs = ext s D := by
   unfold linesOf linesL; rw [e, takeWhile_stop _ _ _ (by simp [endL_end]) _ (fun p hp => by simp [hn p hp])]; rfl
  by_cases hz : D = []
  · exact ⟨D, hl, (fun p hp => by rw [hz] at hp; cases hp), .inr (.inl ⟨hz, (h0 hz).symm⟩)⟩
  refine ⟨D, hl, fun p hp => by rw [e]; exact List.mem_append_left _ hp, .inr (.inr ⟨hz, ?_⟩)⟩; rw [e] at hjl; unfold ext at hjl ⊢; rw [List.map_append, List.map_append] at hjl; have hE : bytesOf (s.extract s.size s.size) = [] := by
   apply List.eq_nil_of_length_eq_zero; rw [bytesOf_length, ByteArray.size_extract]; omega
  have h2 : List.map bytesOf (List.map (fun p => s.extract p.1 p.2) [(s.size, s.size)]) = [[]] := by
   simp only [List.map_cons, List.map_nil, hE]
  rw [h2, jl_end _ _ (by simpa using hz)] at hjl; exact hjl
 rw [hD]; have hlenD : (ext s D).length = D.length := by unfold ext; rw [List.length_map]
 by_cases hz : D = []
 ·
  subst hz; have hs0 : s.size = 0 := by
   rcases hcase with ⟨h, _⟩ | ⟨_, h⟩ | ⟨h, _⟩
   · exact absurd rfl h
   · exact h
   exact absurd rfl h
  refine Ev.congr (f := fun _ => some true) (fun k => ?_) (Ev.now _); rw [if_pos (by rfl)]; have e9 : s.data.toList = [] := List.eq_nil_of_length_eq_zero (by rw [data_length, hs0]); rw [toList_data, e9]; rfl
 have hD0 : 0 < D.length := List.length_pos_iff.2 hz; have hDn : (ext s D).length ≤ 1073741824 := by
  have hc := cuts_few s rs h1 0 (Nat.zero_le _); have hle : D.length ≤ (cutsFrom s rs 0).length := by
   have := congrArg List.length hD; rw [hlenD] at this; unfold linesOf linesL at this; rw [List.length_map] at this; rw [← this]; exact (List.takeWhile_prefix _).length_le
  omega
 obtain ⟨J, hJ⟩ : ∃ J, J = strOfNums (jl (bytesOf rs) ((ext s D).map bytesOf)) := ⟨_, rfl⟩; have hjb : (jl (bytesOf rs) ((ext s D).map bytesOf)).length ≤ s.size := by
  rcases hcase with ⟨_, h, _⟩ | ⟨h, _⟩ | ⟨_, h⟩
  · rw [h, bytesOf_length]; exact Nat.le_refl _
  · exact absurd h hz
  have := congrArg List.length h; rw [List.length_append, bytesOf_length, bytesOf_length] at this; omega
 have hjoin := joined_ev (ext s D) rs hDn (by omega); rw [← hJ] at hjoin; have hJs : J = s ∧ (∃ j, D.getLast? = some (j, s.size) ∧ j < s.size) ∨ J ++ rs = s := by
  rcases hcase with ⟨_, h, hj⟩ | ⟨h, _⟩ | ⟨_, h⟩
  · exact .inl ⟨by rw [hJ, h, str_bytes], hj⟩
  · exact absurd h hz
  refine .inr (bytes_inj ?_); rw [bytes_append, ← h]; congr 1
  have h5 : jl (bytesOf rs) ((ext s D).map bytesOf) = bytesOf (s.extract 0 (s.size - rs.size)) := by
   have h6 : bytesOf (s.extract 0 (s.size - rs.size)) = (bytesOf s).take (s.size - rs.size) := by
    rw [bytesOf_extract, List.drop_zero, Nat.sub_zero]
   rw [h6, ← h]; have := congrArg List.length h; rw [List.length_append, bytesOf_length, bytesOf_length] at this; rw [List.take_left' (by omega)]
  rw [hJ, h5, str_bytes]
 have hJsz : J.size ≤ s.size := by
  rcases hJs with ⟨rfl, _⟩ | h
  · exact Nat.le_refl _
  have := congrArg ByteArray.size h; rw [ByteArray.size_append] at this; omega
 have hend : ∀ i : Nat, (ext s D).length ≤ i → Ev (fun k => abacuslaw21_RecordRejoins.l0 k s rs (ext s D) (i : Int)) true := by
  intro i hi; refine Ev.step (f := fun k => (abacuslaw21_joined.f k (ext s D) rs).bind fun t121 => (if t121.size + rs.size ≤ 9223372036854775807 then (if (t121 ++ rs).toList = s.toList then (some true) else (if s.size + rs.size ≤ 9223372036854775807 then (if (t121 ++ rs).toList = (s ++ rs).toList then (if 0 ≤ (wrap64 (((ext s D).length : Int) - 1)) then (if (wrap64 (((ext s D).length : Int) - 1)) < ((ext s D).length : Int) then (some ((rdOf ByteArray.empty (ext s D) (wrap64 (((ext s D).length : Int) - 1))).toList != ([] : List UInt8))) else (none)) else (none)) else (some false)) else (none))) else (none))) (fun k => ?_) ?_
  · simp only [abacuslaw21_RecordRejoins.l0]; rw [if_neg (by omega)]
  refine Ev.bind (f := fun k t121 => (if t121.size + rs.size ≤ 9223372036854775807 then (if (t121 ++ rs).toList = s.toList then (some true) else (if s.size + rs.size ≤ 9223372036854775807 then (if (t121 ++ rs).toList = (s ++ rs).toList then (if 0 ≤ (wrap64 (((ext s D).length : Int) - 1)) then (if (wrap64 (((ext s D).length : Int) - 1)) < ((ext s D).length : Int) then (some ((rdOf ByteArray.empty (ext s D) (wrap64 (((ext s D).length : Int) - 1))).toList != ([] : List UInt8))) else (none)) else (none)) else (some false)) else (none))) else (none))) hjoin ?_; refine Ev.congr (f := fun _ => some true) (fun k => ?_) (Ev.now _); rw [if_pos (by omega)]; rcases hJs with ⟨rfl, j, hj, hjs⟩ | h
  ·
   have hne : ¬ (J ++ rs).toList = J.toList := by
    intro h; have := congrArg List.length h; rw [toList_data, toList_data, data_length, data_length, ByteArray.size_append] at this; omega
   have hw : wrap64 (((ext J D).length : Int) - 1) = ((D.length - 1 : Nat) : Int) := by
    rw [hlenD]; unfold wrap64; omega
   rw [if_neg hne, if_pos (by omega), if_pos rfl, hw, if_pos (by omega), if_pos (by omega), rdOf_nat _ (by omega)]; have hat : (ext J D)[D.length - 1]'(by omega) = J.extract j J.size := by
    have h1 : (ext J D)[D.length - 1]? = some (J.extract j J.size) := by
     unfold ext; rw [List.getElem?_map, ← List.getLast?_eq_getElem?, hj]; rfl
    rw [List.getElem?_eq_getElem (by omega)] at h1; exact Option.some.inj h1
   rw [hat]; have hnn : (J.extract j J.size).toList ≠ [] := by
    intro h; have := size_of_toList h; rw [ByteArray.size_extract] at this; omega
   simpa using hnn
  rw [if_pos (by rw [h])]
 have hloop : ∀ (d i : Nat), (ext s D).length - i = d → i ≤ (ext s D).length → Ev (fun k => abacuslaw21_RecordRejoins.l0 k s rs (ext s D) (i : Int)) true := by
  intro d; induction d with
  | zero =>
   intro i hd hi; exact hend i (by omega)
  | succ d ih =>
   intro i hd hi; have hlt : i < (ext s D).length := by omega
   have hnext := ih (i + 1) (by omega) (by omega); obtain ⟨p, hp⟩ : ∃ p, D[i]? = some p := ⟨_, List.getElem?_eq_getElem (by omega)⟩; have hat : (ext s D)[i] = s.extract p.1 p.2 := by
    have h1 : (ext s D)[i]? = some (s.extract p.1 p.2) := by
     unfold ext; rw [List.getElem?_map, hp]; rfl
    rw [List.getElem?_eq_getElem hlt] at h1; exact Option.some.inj h1
   obtain ⟨q1, q2, q3⟩ := hfree p (hmem p (List.mem_of_getElem? hp)); have hsz : (s.extract p.1 p.2).size = p.2 - p.1 := by rw [ByteArray.size_extract]; omega
   have hho := holds_ev (s.extract p.1 p.2) rs (by omega) (by omega) (fun t ht => by
    rw [hsz] at ht; rw [extract_dataL, List.drop_take, List.drop_drop, List.take_take, show min rs.size (p.2 - p.1 - t) = rs.size by omega]; exact q3 t (by omega))
   refine Ev.step (f := fun k => (abacuslaw21_holds.f k (s.extract p.1 p.2) rs).bind fun t120 => (if t120 = true then (some false) else (abacuslaw21_RecordRejoins.l0 k s rs (ext s D) ((i + 1 : Nat) : Int)))) (fun k => ?_) ?_
   · simp only [abacuslaw21_RecordRejoins.l0]; rw [if_pos (by omega), if_pos (by omega), rdOf_nat _ hlt, hat, wrap_nat (by omega)]
   refine Ev.bind (f := fun k t120 => (if t120 = true then (some false) else (abacuslaw21_RecordRejoins.l0 k s rs (ext s D) ((i + 1 : Nat) : Int)))) hho ?_; refine Ev.congr (fun k => ?_) hnext; rw [if_neg (by simp)]
 refine Ev.congr (fun k => ?_) (hloop _ 0 rfl (Nat.zero_le _)); rw [if_neg (by omega)]; rfl
end Go.Proofs.YtmbacdkpgfbclaaGreatDoor.Plain
