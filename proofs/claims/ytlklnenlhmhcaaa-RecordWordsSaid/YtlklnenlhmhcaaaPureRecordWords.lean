/- The plain law of RecordWords: the fields at a blank hold no blank, put together they are the text without its blanks, and blanks about the text make no difference; conditions: none but the text's size. -/
import Derived.Test.YtlklnenlhmhcaaaPRecordWordsx2
namespace Go.Proofs.Ytlklnenlhmhcaaa.Pure
open Go.RowKit Go.Proofs.Ytlklnenlhmhcaaa.PRecordWords Go.Proofs.YtlklnenlhmhcaaaW.PrintWords Go.Proofs.YtlklnenlhmhcaaaW.PrintLast

theorem scanBlank_f (a : Int) : scan_Blank.f a = some (blI a) := by
  unfold scan_Blank.f blI
  split
  · rfl
  · split <;> rfl

theorem wrap_nat {i : Nat} (h : i ≤ 140737488355392) : wrap64 ((i : Int) + 1) = ((i + 1 : Nat) : Int) := by
  unfold wrap64; omega

/-! ### the bytes that are no blanks, and the places where a run begins -/
def nbFrom (s : ByteArray) (i : Nat) : List Int :=
  if i < s.size then (if blAt s i = true then nbFrom s (i + 1) else bt s i :: nbFrom s (i + 1)) else []
  termination_by s.size - i
def stFrom (s : ByteArray) (i : Nat) : Nat :=
  if i < s.size then (if blAt s i = false ∧ (i = 0 ∨ blAt s (i - 1) = true) then 1 else 0) + stFrom s (i + 1) else 0
  termination_by s.size - i

theorem nb_end {s : ByteArray} {i : Nat} (h : s.size ≤ i) : nbFrom s i = [] := by rw [nbFrom, if_neg (by omega)]
theorem nb_blank {s : ByteArray} {i : Nat} (h : i < s.size) (hb : blAt s i = true) : nbFrom s i = nbFrom s (i + 1) := by rw [nbFrom, if_pos h, if_pos hb]
theorem nb_run {s : ByteArray} {i : Nat} (h : i < s.size) (hb : blAt s i = false) : nbFrom s i = bt s i :: nbFrom s (i + 1) := by rw [nbFrom, if_pos h, if_neg (by simp [hb])]
theorem st_end {s : ByteArray} {i : Nat} (h : s.size ≤ i) : stFrom s i = 0 := by rw [stFrom, if_neg (by omega)]
theorem st_go {s : ByteArray} {i : Nat} (h : i < s.size) : stFrom s i = (if blAt s i = false ∧ (i = 0 ∨ blAt s (i - 1) = true) then 1 else 0) + stFrom s (i + 1) := by rw [stFrom, if_pos h]
theorem nb_len (s : ByteArray) (i : Nat) : (nbFrom s i).length ≤ s.size - i := by
  fun_induction nbFrom s i with
  | case1 i h hb ih => omega
  | case2 i h hb ih => simp; omega
  | case3 i h => simp

theorem extract_dataL (s : ByteArray) (a b : Nat) : (s.extract a b).data.toList = (s.data.toList.drop a).take (b - a) := by
  obtain ⟨⟨l⟩⟩ := s
  rw [ByteArray.extract_mk]
/-- The bytes of a piece. -/
def pieceNums (s : ByteArray) (a b : Nat) : List Int := (List.range (b - a)).map fun (j : Nat) => bt s ((a + j : Nat) : Int)
theorem extract_nums (s : ByteArray) (a b : Nat) (hb : b ≤ s.size) : bytesOf (s.extract a b) = pieceNums s a b := by
  unfold bytesOf pieceNums
  rw [extract_dataL]
  apply List.ext_getElem?
  intro n
  simp only [List.getElem?_map, List.getElem?_take, List.getElem?_drop]
  by_cases hn : n < b - a
  · have h2 : a + n < s.data.toList.length := by rw [data_length]; omega
    rw [if_pos hn, List.getElem?_eq_getElem h2]
    simp only [Option.map_some]
    rw [List.getElem?_eq_getElem (by simpa using hn)]
    simp only [List.getElem_range, Option.map_some]
    congr 1
    have h3 : a + n < s.size := by omega
    unfold bt
    have h4 : ((a + n : Nat) : Int).toNat = a + n := Int.toNat_natCast _
    rw [dif_pos (by rw [h4]; exact h3)]
    congr 1
  · rw [if_neg hn]
    rw [List.getElem?_eq_none (by simpa using hn)]
    rfl
theorem piece_cons (s : ByteArray) (a b : Nat) (h : a < b) : pieceNums s a b = bt s a :: pieceNums s (a + 1) b := by
  unfold pieceNums
  obtain ⟨d, hd⟩ : ∃ d, b - a = d + 1 := ⟨b - a - 1, by omega⟩
  rw [hd, show b - (a + 1) = d by omega, List.range_succ_eq_map, List.map_cons, List.map_map]
  refine congr (congrArg _ (by simp)) ?_
  apply List.map_congr_left
  intro j _
  simp only [Function.comp]
  congr 1
  omega
theorem piece_nil (s : ByteArray) (a b : Nat) (h : b ≤ a) : pieceNums s a b = [] := by
  unfold pieceNums; rw [show b - a = 0 by omega]; rfl

theorem nb_through (s : ByteArray) (i : Nat) (hi : i ≤ s.size) : nbFrom s i = pieceNums s i (runEnd s i) ++ nbFrom s (runEnd s i) := by
  fun_induction runEnd s i with
  | case1 i h ih =>
    rw [nb_run h.1 h.2, ih (by omega), piece_cons s i _ (by have := runEnd_ge s (i + 1); omega)]
    rfl
  | case2 i h => rw [piece_nil s i i (Nat.le_refl _)]; rfl

/-- The pieces put together: the bytes that are no blanks. -/
theorem concat_runs (s : ByteArray) (i : Nat) (hi : i ≤ s.size) : ((runsFrom s i).map fun p => bytesOf (s.extract p.1 p.2)).flatten = nbFrom s i := by
  fun_induction runsFrom s i with
  | case1 i h hb ih => rw [nb_blank h hb]; exact ih (by omega)
  | case2 i h hb ih =>
    have hl := runEnd_le s i (by omega)
    rw [List.map_cons, List.flatten_cons, ih hl, extract_nums s i _ hl, ← nb_through s i (by omega)]
  | case3 i h => rw [nb_end (by omega)]; rfl

theorem st_through (s : ByteArray) (i : Nat) (h0 : 0 < i) (hp : blAt s (i - 1) = false) : stFrom s i = stFrom s (runEnd s i) := by
  fun_induction runEnd s i with
  | case1 i h ih =>
    rw [st_go h.1, if_neg (by rintro ⟨_, h2 | h2⟩; · omega
                              · rw [hp] at h2; cases h2), Nat.zero_add]
    exact ih (by omega) (by simpa using h.2)
  | case2 i h => rfl
theorem count_runs (s : ByteArray) (i : Nat) (hp : i = 0 ∨ blAt s (i - 1) = true ∨ ¬ (i < s.size ∧ blAt s i = false)) : (runsFrom s i).length = stFrom s i := by
  fun_induction runsFrom s i with
  | case1 i h hb ih =>
    rw [st_go h, if_neg (by rintro ⟨h2, _⟩; rw [hb] at h2; cases h2), Nat.zero_add]
    exact ih (.inr (.inl (by simpa using hb)))
  | case2 i h hb ih =>
    have hbf : blAt s i = false := by simpa using hb
    have hs : i = 0 ∨ blAt s (i - 1) = true := by
      rcases hp with h2 | h2 | h2
      · exact .inl h2
      · exact .inr h2
      · exact absurd ⟨h, hbf⟩ h2
    rw [List.length_cons, ih (.inr (.inr (runEnd_at s i))), st_go h, if_pos ⟨hbf, hs⟩, st_through s (i + 1) (by omega) (by simpa using hbf), ← runEnd_go h hbf]
    omega
  | case3 i h => rw [st_end (by omega)]; rfl
/-! ### the loops -/
theorem blank_at_f (s : ByteArray) (i : Nat) : scan_Blank.f (bt s (i : Int)) = some (blAt s i) := scanBlank_f _
theorem wrap_pred {i : Nat} (h0 : 0 < i) (h : i ≤ 140737488355392) : wrap64 ((i : Int) - 1) = ((i - 1 : Nat) : Int) := by
  unfold wrap64; omega

def tail0 (k : Nat) (s : ByteArray) (F : List ByteArray) (x4 : List Int) (x5 : Int) : Option Bool :=
  (abacuslaw21_joined.f k F (⟨#[]⟩ : ByteArray)).bind fun t133 => (if t133.toList = (strOfNums x4).toList then (abacuslaw21_RecordWords.j2 k s F ((F.length : Int) != x5)) else (abacuslaw21_RecordWords.j2 k s F true))

theorem l0_ev (s : ByteArray) (F : List ByteArray) (hs : s.size ≤ 140737488351232) (r : Bool) (d : Nat) : ∀ (i : Nat) (x4 : List Int) (x5 : Nat), s.size - i = d → i ≤ s.size → x4.length ≤ i → x5 ≤ i →
    Ev (fun k => tail0 k s F (x4 ++ nbFrom s i) ((x5 + stFrom s i : Nat) : Int)) r → Ev (fun k => abacuslaw21_RecordWords.l0 k s F x4 (x5 : Int) (i : Int)) r := by
  induction d with
  | zero =>
    intro i x4 x5 hd hi h4 h5 h
    rw [nb_end (by omega), st_end (by omega), List.append_nil, Nat.add_zero] at h
    refine Ev.step (fun k => ?_) h
    simp only [abacuslaw21_RecordWords.l0]
    rw [if_neg (by omega)]
    rfl
  | succ d ih =>
    intro i x4 x5 hd hi h4 h5 h
    have hlt : i < s.size := by omega
    cases hb : blAt s i with
    | true =>
      rw [nb_blank hlt hb, st_go hlt, if_neg (by rintro ⟨h2, _⟩; rw [hb] at h2; cases h2), Nat.zero_add] at h
      refine Ev.step (fun k => ?_) (ih (i + 1) x4 x5 (by omega) (by omega) (by omega) (by omega) h)
      simp only [abacuslaw21_RecordWords.l0]
      rw [if_pos (by omega), if_pos (by omega), blank_at_f, hb]
      simp only [Option.bind_some, if_true]
      rw [wrap_nat (by omega)]
    | false =>
      rw [nb_run hlt hb, st_go hlt] at h
      have h' : Ev (fun k => tail0 k s F ((x4 ++ [bt s (i : Int)]) ++ nbFrom s (i + 1)) (((x5 + if blAt s i = false ∧ (i = 0 ∨ blAt s (i - 1) = true) then 1 else 0) + stFrom s (i + 1) : Nat) : Int)) r := by
        rw [List.append_assoc, Nat.add_assoc]; exact h
      by_cases hst : i = 0 ∨ blAt s (i - 1) = true
      · rw [if_pos ⟨hb, hst⟩] at h'
        refine Ev.step (fun k => ?_) (ih (i + 1) (x4 ++ [bt s (i : Int)]) (x5 + 1) (by omega) (by omega) (by simp; omega) (by omega) h')
        simp only [abacuslaw21_RecordWords.l0]
        rw [if_pos (by omega), if_pos (by omega), blank_at_f, hb]
        simp only [Option.bind_some]
        rw [if_neg (by simp), if_pos (by omega), wrap_nat (i := i) (by omega), wrap_nat (i := x5) (by omega)]
        by_cases h0 : i = 0
        · rw [if_pos (by omega)]
        · rw [if_neg (by omega), wrap_pred (by omega) (by omega), if_pos (by omega), if_pos (by omega), blank_at_f, hst.resolve_left h0]
          simp only [Option.bind_some, if_true]
      · have h0 : i ≠ 0 := fun e => hst (.inl e)
        have hp : blAt s (i - 1) = false := by cases h2 : blAt s (i - 1) with | false => rfl | true => exact absurd (.inr h2) hst
        rw [if_neg (fun h2 => hst h2.2), Nat.add_zero] at h'
        refine Ev.step (fun k => ?_) (ih (i + 1) (x4 ++ [bt s (i : Int)]) x5 (by omega) (by omega) (by simp; omega) (by omega) h')
        simp only [abacuslaw21_RecordWords.l0]
        rw [if_pos (by omega), if_pos (by omega), blank_at_f, hb]
        simp only [Option.bind_some]
        rw [if_neg (by simp), if_pos (by omega), wrap_nat (i := i) (by omega), if_neg (by omega), wrap_pred (by omega) (by omega), if_pos (by omega), if_pos (by omega), blank_at_f, hp]
        simp

/-- joined(l, ""): the texts put together. -/
theorem joined_ev (F : List ByteArray) (hF : F.length ≤ 140737488351232) (hT : (F.map bytesOf).flatten.length ≤ 140737488351232) :
    Ev (fun k => abacuslaw21_joined.f k F ⟨#[]⟩) (strOfNums (F.map bytesOf).flatten) := by
  have go : ∀ (d i : Nat) (x5 : List Int), F.length - i = d → i ≤ F.length → x5 ++ ((F.drop i).map bytesOf).flatten = (F.map bytesOf).flatten →
      Ev (fun k => abacuslaw21_joined.l0 k F ⟨#[]⟩ x5 (i : Int)) (strOfNums (F.map bytesOf).flatten) := by
    intro d
    induction d with
    | zero =>
      intro i x5 hd hi hx
      rw [List.drop_of_length_le (by omega)] at hx
      simp only [List.map_nil, List.flatten_nil, List.append_nil] at hx
      refine Ev.step (f := fun _ => some (strOfNums (F.map bytesOf).flatten)) (fun k => ?_) (Ev.now _)
      simp only [abacuslaw21_joined.l0]
      rw [if_neg (by omega), hx]
    | succ d ih =>
      intro i x5 hd hi hx
      have hlt : i < F.length := by omega
      rw [List.drop_eq_getElem_cons hlt, List.map_cons, List.flatten_cons, ← List.append_assoc] at hx
      have hrd : rdOf ByteArray.empty F (i : Int) = F[i] := by
        unfold rdOf
        rw [Int.toNat_natCast, List.getD_eq_getElem?_getD, List.getElem?_eq_getElem hlt]
        rfl
      have hlen : x5.length + F[i].size ≤ 140737488351232 := by
        have := congrArg List.length hx
        simp only [List.length_append, bytesOf_length] at this
        omega
      refine Ev.step (fun k => ?_) (ih (i + 1) (x5 ++ bytesOf F[i]) (by omega) (by omega) hx)
      simp only [abacuslaw21_joined.l0]
      have hz : (⟨#[]⟩ : ByteArray).size = 0 := rfl
      have hz2 : bytesOf ⟨#[]⟩ = [] := rfl
      rw [if_pos (by omega), hz, hz2, hrd, wrap_nat (by omega)]
      by_cases h0 : i = 0
      · rw [if_neg (by omega), if_pos (by omega), if_pos (by omega)]
      · rw [if_pos (by omega), if_pos (by omega)]
        simp only [Option.bind_some, List.append_nil]
        rw [if_pos (by omega), if_pos (by omega)]
  exact go F.length 0 [] (by omega) (by omega) (by simp)
theorem rdOf_nat (F : List ByteArray) {i : Nat} (hlt : i < F.length) : rdOf ByteArray.empty F (i : Int) = F[i] := by
  unfold rdOf
  rw [Int.toNat_natCast, List.getD_eq_getElem?_getD, List.getElem?_eq_getElem hlt]
  rfl
theorem toList_ne {x : ByteArray} (h : 0 < x.size) : x.toList ≠ [] := by
  rw [ByteArray.toList_eq]
  intro e
  have h2 := data_length x
  rw [e] at h2
  simp at h2
  omega

def tail1 (k : Nat) (s : ByteArray) (F : List ByteArray) : Option Bool :=
  if 3 + s.size ≤ 9223372036854775807 then (if ((⟨#[32, 9, 13]⟩ : ByteArray) ++ s).size + 4 ≤ 9223372036854775807 then ((record_Fields.f (((⟨#[32, 9, 13]⟩ : ByteArray) ++ s) ++ (⟨#[11, 12, 10, 32]⟩ : ByteArray)) (⟨#[32]⟩ : ByteArray)).bind fun t134 => ((abacuslaw21_sameTexts.f k F t134).bind fun t137 => (some t137))) else (none)) else (none)

/-- A field: not empty, no blank in it. -/
def GoodF (F : List ByteArray) : Prop := ∀ x ∈ F, 0 < x.size ∧ x.size ≤ 140737488351232 ∧ ∀ j, j < x.size → blAt x j = false

theorem l2_ev (s : ByteArray) (F : List ByteArray) (hF : F.length ≤ 140737488351232) (hG : GoodF F) (r : Bool) (i : Nat) (hi : i < F.length) (d : Nat) : ∀ j, F[i].size - j = d → j ≤ F[i].size →
    Ev (fun k => abacuslaw21_RecordWords.l1 k s F ((i + 1 : Nat) : Int)) r → Ev (fun k => abacuslaw21_RecordWords.l2 k s F (i : Int) (j : Int)) r := by
  have hg := hG F[i] (List.getElem_mem hi)
  induction d with
  | zero =>
    intro j hd hj h
    refine Ev.step (fun k => ?_) h
    simp only [abacuslaw21_RecordWords.l2]
    rw [rdOf_nat F hi, if_pos (by omega), if_pos (by omega), if_neg (by omega), wrap_nat (by omega)]
  | succ d ih =>
    intro j hd hj h
    have hlt : j < F[i].size := by omega
    refine Ev.step (fun k => ?_) (ih (j + 1) (by omega) (by omega) h)
    simp only [abacuslaw21_RecordWords.l2]
    rw [rdOf_nat F hi, if_pos (by omega), if_pos (by omega), if_pos (by omega), if_pos (by omega), blank_at_f, hg.2.2 j hlt]
    simp only [Option.bind_some]
    rw [if_neg (by simp), wrap_nat (by omega)]

theorem l1_ev (s : ByteArray) (F : List ByteArray) (hF : F.length ≤ 140737488351232) (hG : GoodF F) (r : Bool) (h : Ev (fun k => tail1 k s F) r) (d : Nat) : ∀ i, F.length - i = d → i ≤ F.length →
    Ev (fun k => abacuslaw21_RecordWords.l1 k s F (i : Int)) r := by
  induction d with
  | zero =>
    intro i hd hi
    refine Ev.step (fun k => ?_) h
    simp only [abacuslaw21_RecordWords.l1]
    rw [if_neg (by omega)]
    rfl
  | succ d ih =>
    intro i hd hi
    have hlt : i < F.length := by omega
    have hg := hG F[i] (List.getElem_mem hlt)
    refine Ev.step (fun k => ?_) (l2_ev s F hF hG r i hlt F[i].size 0 (by omega) (by omega) (ih (i + 1) (by omega) (by omega)))
    simp only [abacuslaw21_RecordWords.l1]
    rw [rdOf_nat F hlt, if_pos (by omega), if_pos (by omega), if_neg (toList_ne hg.1)]
    rfl

theorem same_ev (F : List ByteArray) (hF : F.length ≤ 140737488351232) : Ev (fun k => abacuslaw21_sameTexts.f k F F) true := by
  have go : ∀ (d i : Nat), F.length - i = d → i ≤ F.length → Ev (fun k => abacuslaw21_sameTexts.l0 k F F (i : Int)) true := by
    intro d
    induction d with
    | zero =>
      intro i hd hi
      refine Ev.step (f := fun _ => some true) (fun k => ?_) (Ev.now _)
      simp only [abacuslaw21_sameTexts.l0]
      rw [if_neg (by omega)]
    | succ d ih =>
      intro i hd hi
      refine Ev.step (fun k => ?_) (ih (i + 1) (by omega) (by omega))
      simp only [abacuslaw21_sameTexts.l0]
      rw [if_pos (by omega), if_pos (by omega), if_pos (by omega), if_pos trivial, wrap_nat (by omega)]
  refine Ev.congr (fun k => ?_) (go F.length 0 (by omega) (by omega))
  unfold abacuslaw21_sameTexts.f
  rw [if_pos rfl]
  rfl

/-! ### blanks about the text -/
def around (s : ByteArray) : ByteArray := ((⟨#[32, 9, 13]⟩ : ByteArray) ++ s) ++ (⟨#[11, 12, 10, 32]⟩ : ByteArray)
theorem around_size (s : ByteArray) : (around s).size = s.size + 7 := by
  unfold around
  rw [ByteArray.size_append, ByteArray.size_append]
  have h1 : (⟨#[32, 9, 13]⟩ : ByteArray).size = 3 := rfl
  have h2 : (⟨#[11, 12, 10, 32]⟩ : ByteArray).size = 4 := rfl
  omega
theorem around_data (s : ByteArray) : (around s).data.toList = [32, 9, 13] ++ s.data.toList ++ [11, 12, 10, 32] := by
  unfold around
  simp [ByteArray.data_append]
theorem bt_get (s : ByteArray) (i : Nat) : bt s (i : Int) = ((s.data.toList[i]?.map fun b => (b.toNat : Int)).getD 0) := by
  unfold bt
  rw [Int.toNat_natCast]
  split
  · rename_i h
    have h' : i < s.data.toList.length := by rw [data_length]; exact h
    rw [List.getElem?_eq_getElem h']
    rfl
  · rename_i h
    have h' : s.data.toList.length ≤ i := by rw [data_length]; omega
    rw [List.getElem?_eq_none h']
    rfl
theorem around_mid (s : ByteArray) (i : Nat) (h : i < s.size) : bt (around s) ((i + 3 : Nat) : Int) = bt s (i : Int) := by
  rw [bt_get, bt_get, around_data]
  congr 2
  have h' : i < s.data.toList.length := by rw [data_length]; exact h
  rw [List.append_assoc, List.getElem?_append_right (by simp), List.getElem?_append_left (by simpa using h')]
  simp
theorem around_end (s : ByteArray) (i : Nat) (h : s.size + 3 ≤ i) (h2 : i < s.size + 7) : blAt (around s) i = true := by
  unfold blAt
  rw [bt_get, around_data]
  have h' : ([32, 9, 13] ++ s.data.toList : List UInt8).length = s.size + 3 := by rw [List.length_append, data_length]; simp; omega
  rw [List.getElem?_append_right (by omega), h']
  obtain ⟨j, rfl⟩ : ∃ j, i = s.size + 3 + j := ⟨i - (s.size + 3), by omega⟩
  rw [show s.size + 3 + j - (s.size + 3) = j by omega]
  have : j = 0 ∨ j = 1 ∨ j = 2 ∨ j = 3 := by omega
  rcases this with rfl | rfl | rfl | rfl <;> decide
theorem around_head (s : ByteArray) (i : Nat) (h : i < 3) : blAt (around s) i = true := by
  unfold blAt
  rw [bt_get, around_data, List.append_assoc, List.getElem?_append_left (by simpa using h)]
  have : i = 0 ∨ i = 1 ∨ i = 2 := by omega
  rcases this with rfl | rfl | rfl <;> decide
theorem around_bl (s : ByteArray) (i : Nat) (h : i < s.size) : blAt (around s) (i + 3) = blAt s i := by
  unfold blAt; rw [around_mid s i h]

theorem around_runEnd (s : ByteArray) (i : Nat) (hi : i ≤ s.size) : runEnd (around s) (i + 3) = runEnd s i + 3 := by
  fun_induction runEnd s i with
  | case1 i h ih =>
    rw [runEnd_go (by rw [around_size]; omega) (by rw [around_bl s i h.1]; exact h.2), show i + 3 + 1 = (i + 1) + 3 by omega]
    exact ih (by omega)
  | case2 i h =>
    refine runEnd_stop fun h2 => ?_
    by_cases e : i < s.size
    · rw [around_bl s i e] at h2
      exact h ⟨e, h2.2⟩
    · rw [around_end s (i + 3) (by omega) (by omega)] at h2
      exact Bool.noConfusion h2.2
theorem around_tail (s : ByteArray) (d : Nat) : ∀ i, s.size + 7 - i = d → s.size + 3 ≤ i → runsFrom (around s) i = [] := by
  induction d with
  | zero => intro i hd hi; exact runsFrom_end (by rw [around_size]; omega)
  | succ d ih =>
    intro i hd hi
    rw [runsFrom_blank (by rw [around_size]; omega) (around_end s i hi (by omega))]
    exact ih (i + 1) (by omega) (by omega)
theorem around_from (s : ByteArray) (i : Nat) (hi : i ≤ s.size) : runsFrom (around s) (i + 3) = (runsFrom s i).map fun p => (p.1 + 3, p.2 + 3) := by
  fun_induction runsFrom s i with
  | case1 i h hb ih =>
    rw [runsFrom_blank (by rw [around_size]; omega) (by rw [around_bl s i h]; exact hb), show i + 3 + 1 = (i + 1) + 3 by omega]
    exact ih (by omega)
  | case2 i h hb ih =>
    rw [runsFrom_run (by rw [around_size]; omega) (by rw [around_bl s i h]; simpa using hb), around_runEnd s i hi, ih (runEnd_le s i hi), List.map_cons]
  | case3 i h => exact around_tail s _ (i + 3) rfl (by omega)
theorem around_runs (s : ByteArray) : runs (around s) = (runs s).map fun p => (p.1 + 3, p.2 + 3) := by
  unfold runs
  rw [runsFrom_blank (by rw [around_size]; omega) (around_head s 0 (by omega)), runsFrom_blank (by rw [around_size]; omega) (around_head s 1 (by omega)), runsFrom_blank (by rw [around_size]; omega) (around_head s 2 (by omega))]
  exact around_from s 0 (Nat.zero_le _)
theorem around_extract (s : ByteArray) (a b : Nat) (hb : b ≤ s.size) : (around s).extract (a + 3) (b + 3) = s.extract a b := by
  apply ByteArray.ext
  apply Array.ext'
  rw [extract_dataL, extract_dataL, around_data, show b + 3 - (a + 3) = b - a by omega, List.append_assoc, List.drop_append, List.drop_of_length_le (by simp), List.nil_append]
  by_cases h : a ≤ s.size
  · rw [List.drop_append, List.take_append_of_le_length (by rw [List.length_drop, data_length]; simp; omega)]
    simp
  · rw [show b - a = 0 by omega]; rfl
theorem around_fields (s : ByteArray) (h : (runs s).length ≤ 32767) : fieldsB (around s) = fieldsB s := by
  rw [fieldsB_le s h, fieldsB_le (around s) (by rw [around_runs, List.length_map]; exact h), around_runs, List.map_map]
  apply List.map_congr_left
  intro p hp
  exact around_extract s p.1 p.2 (runsFrom_ok s 0 p hp).2.1

theorem runsFrom_in (s : ByteArray) (i : Nat) : ∀ p ∈ runsFrom s i, p.1 < p.2 ∧ p.2 ≤ s.size ∧ ∀ j, p.1 ≤ j → j < p.2 → blAt s j = false := by
  fun_induction runsFrom s i with
  | case1 i h hb ih => exact ih
  | case2 i h hb ih =>
    intro p hp
    rcases List.mem_cons.1 hp with rfl | hp
    · exact ⟨runEnd_gt s i h (by simpa using hb), runEnd_le s i (by omega), fun j h1 h2 => (runEnd_in s i j h1 h2).2⟩
    · exact ih p hp
  | case3 i h => intro p hp; simp at hp
theorem good_fields (s : ByteArray) (hs : s.size ≤ 140737488351232) (h : (runs s).length ≤ 32767) : GoodF (fieldsB s) := by
  rw [fieldsB_le s h]
  intro x hx
  obtain ⟨p, hp, rfl⟩ := List.mem_map.1 hx
  obtain ⟨e1, e2, e3⟩ := runsFrom_in s 0 p hp
  have hsz : (s.extract p.1 p.2).size = p.2 - p.1 := by rw [ByteArray.size_extract]; omega
  refine ⟨by omega, by omega, fun j hj => ?_⟩
  have h4 := e3 (p.1 + j) (by omega) (by omega)
  unfold blAt at h4 ⊢
  have h5 := extract_nums s p.1 p.2 e2
  have h6 : bt (s.extract p.1 p.2) (j : Int) = bt s ((p.1 + j : Nat) : Int) := by
    rw [← rd_bytesOf, h5]
    unfold rd pieceNums
    rw [Int.toNat_natCast, List.getD_eq_getElem?_getD, List.getElem?_map, List.getElem?_eq_getElem (by simp; omega)]
    simp
  rw [h6]; exact h4

/-! ### the law -/
theorem Fields_f (s : ByteArray) (h : s.size ≤ 140737488355392) : record_Fields.f s ⟨#[32]⟩ = some (fieldsB s) := by
  unfold record_Fields.f
  rw [if_pos rfl, if_pos h]

def aTxt : ByteArray := ⟨#[32, 32, 97, 32, 98, 9, 10, 99, 32]⟩
theorem aTxt_size : aTxt.size = 9 := rfl
theorem aTxt_runs : runs aTxt = [(2, 3), (4, 5), (7, 8)] := by
  unfold runs
  have h0 : blAt aTxt 0 = true := by decide
  have h1 : blAt aTxt 1 = true := by decide
  have h2 : blAt aTxt 2 = false := by decide
  have h3 : blAt aTxt 3 = true := by decide
  have h4 : blAt aTxt 4 = false := by decide
  have h5 : blAt aTxt 5 = true := by decide
  have h6 : blAt aTxt 6 = true := by decide
  have h7 : blAt aTxt 7 = false := by decide
  have h8 : blAt aTxt 8 = true := by decide
  have e2 : runEnd aTxt 2 = 3 := by rw [runEnd_go (by rw [aTxt_size]; omega) h2, runEnd_stop (by rw [h3]; simp)]
  have e4 : runEnd aTxt 4 = 5 := by rw [runEnd_go (by rw [aTxt_size]; omega) h4, runEnd_stop (by rw [h5]; simp)]
  have e7 : runEnd aTxt 7 = 8 := by rw [runEnd_go (by rw [aTxt_size]; omega) h7, runEnd_stop (by rw [h8]; simp)]
  rw [runsFrom_blank (by rw [aTxt_size]; omega) h0, runsFrom_blank (by rw [aTxt_size]; omega) h1, runsFrom_run (by rw [aTxt_size]; omega) h2, e2, runsFrom_blank (by rw [aTxt_size]; omega) h3,
    runsFrom_run (by rw [aTxt_size]; omega) h4, e4, runsFrom_blank (by rw [aTxt_size]; omega) h5, runsFrom_blank (by rw [aTxt_size]; omega) h6, runsFrom_run (by rw [aTxt_size]; omega) h7, e7,
    runsFrom_blank (by rw [aTxt_size]; omega) h8, runsFrom_end (by rw [aTxt_size]; omega)]
theorem aTxt_fields : fieldsB aTxt = [⟨#[97]⟩, ⟨#[98]⟩, ⟨#[99]⟩] := by
  rw [fieldsB_le aTxt (by rw [aTxt_runs]; decide), aTxt_runs]
  rfl

theorem RecordWords : abacuslaw21_RecordWords.Pure := by
  intro a0 ha
  refine Ev.rounds (g := fun k => abacuslaw21_RecordWords.f k a0) ?_
  have hf1 := Fields_f aTxt (by rw [aTxt_size]; omega)
  rw [aTxt_fields] at hf1
  have hf2 := Fields_f a0 (by omega)
  have main : Ev (fun k => abacuslaw21_RecordWords.j0 k a0 false) true := by
    by_cases hlong : (runs a0).length ≤ 32767
    · have hl : (fieldsB a0).length ≤ 32767 := by rw [fieldsB_le a0 hlong, List.length_map]; exact hlong
      have hG := good_fields a0 ha hlong
      have hcat : ((fieldsB a0).map bytesOf).flatten = nbFrom a0 0 := by
        rw [fieldsB_le a0 hlong, List.map_map]
        exact concat_runs a0 0 (Nat.zero_le _)
      have hcnt : (fieldsB a0).length = stFrom a0 0 := by
        rw [fieldsB_le a0 hlong, List.length_map]
        exact count_runs a0 0 (.inl rfl)
      have h1 : Ev (fun k => tail1 k a0 (fieldsB a0)) true := by
        have hsame := same_ev (fieldsB a0) (by omega)
        obtain ⟨K, hK⟩ := hsame
        refine ⟨K, fun k hk => ?_⟩
        have hz := around_size a0
        have hz2 : ((⟨#[32, 9, 13]⟩ : ByteArray) ++ a0).size = 3 + a0.size := by rw [ByteArray.size_append]; rfl
        show tail1 k a0 (fieldsB a0) = some true
        unfold tail1
        rw [if_pos (by omega), if_pos (by omega)]
        have e : (((⟨#[32, 9, 13]⟩ : ByteArray) ++ a0) ++ (⟨#[11, 12, 10, 32]⟩ : ByteArray)) = around a0 := rfl
        rw [e, Fields_f (around a0) (by omega), around_fields a0 hlong]
        simp only [Option.bind_some]
        have hk2 : abacuslaw21_sameTexts.f k (fieldsB a0) (fieldsB a0) = some true := hK k hk
        rw [hk2]
        rfl
      have h2 := l1_ev a0 (fieldsB a0) (by omega) hG true h1 (fieldsB a0).length 0 (by omega) (by omega)
      have h3 : Ev (fun k => abacuslaw21_RecordWords.j2 k a0 (fieldsB a0) false) true := by
        refine Ev.step (fun k => ?_) h2
        simp only [abacuslaw21_RecordWords.j2]
        rw [if_neg (by simp)]
        rfl
      have hnl := nb_len a0 0
      have h4 : Ev (fun k => tail0 k a0 (fieldsB a0) (nbFrom a0 0) ((stFrom a0 0 : Nat) : Int)) true := by
        have hj := joined_ev (fieldsB a0) (by omega) (by rw [hcat]; omega)
        rw [hcat] at hj
        refine Ev.bind hj ?_
        refine Ev.congr (fun k => ?_) h3
        rw [if_pos rfl, hcnt]
        simp
      have h5 := l0_ev a0 (fieldsB a0) ha true a0.size 0 [] 0 (by omega) (by omega) (by simp) (by omega) (by simpa using h4)
      refine Ev.step (fun k => ?_) h5
      simp only [abacuslaw21_RecordWords.j0]
      rw [if_neg (by simp), hf2]
      simp only [Option.bind_some]
      rw [if_neg (by omega)]
      rfl
    · have hl : (fieldsB a0).length = 32768 := by
        unfold fieldsB
        rw [if_neg hlong]
        simp
        omega
      refine Ev.step (f := fun _ => some true) (fun k => ?_) (Ev.now _)
      simp only [abacuslaw21_RecordWords.j0]
      rw [if_neg (by simp), hf2]
      simp only [Option.bind_some]
      rw [if_pos (by omega), hl]
      rfl
  refine Ev.congr (fun k => ?_) main
  unfold abacuslaw21_RecordWords.f
  have e : (⟨#[32, 32, 97, 32, 98, 9, 10, 99, 32]⟩ : ByteArray) = aTxt := rfl
  rw [e, hf1]
  simp only [Option.bind_some]
  have t0 : (rdOf ByteArray.empty [(⟨#[97]⟩ : ByteArray), ⟨#[98]⟩, ⟨#[99]⟩] 0).toList = [97] := by rw [ByteArray.toList_eq]; rfl
  have t2 : (rdOf ByteArray.empty [(⟨#[97]⟩ : ByteArray), ⟨#[98]⟩, ⟨#[99]⟩] 2).toList = [99] := by rw [ByteArray.toList_eq]; rfl
  rw [t0, t2, if_pos (by decide), if_pos (by decide), if_pos rfl, if_pos (by decide)]
  rfl
end Go.Proofs.Ytlklnenlhmhcaaa.Pure
