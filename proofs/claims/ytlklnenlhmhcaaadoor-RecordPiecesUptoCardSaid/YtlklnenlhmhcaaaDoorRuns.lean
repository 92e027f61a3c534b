/- The plain words of record.Fields: the pieces of a text by a separator, as places; conditions: none. -/
import Derived.Test.YtlklnenlhmhcaaaDoorProg
import Derived.Test.YtlklnenlhmhcaaaDoorWWords
import Derived.Lib.SplitLaws
namespace Go.Proofs.YtlklnenlhmhcaaaDoor
open Go.RowKit Go.Proofs.YtlklnenlhmhcaaaDoorW.PrintWords

/-- A blank, as a Bool. -/
def blI (a : Int) : Bool := if a = 32 then true else if a ≥ 9 then decide (a ≤ 13) else false
/-- Is the byte at place i a blank? -/
def blAt (s : ByteArray) (i : Nat) : Bool := blI (bt s (i : Int))

/-- The place behind the run at i. -/
def runEnd (s : ByteArray) (i : Nat) : Nat :=
  if i < s.size ∧ blAt s i = false then runEnd s (i + 1) else i
  termination_by s.size - i

theorem runEnd_go {s : ByteArray} {i : Nat} (h : i < s.size) (hb : blAt s i = false) : runEnd s i = runEnd s (i + 1) := by
  rw [runEnd, if_pos ⟨h, hb⟩]
theorem runEnd_stop {s : ByteArray} {i : Nat} (h : ¬ (i < s.size ∧ blAt s i = false)) : runEnd s i = i := by
  rw [runEnd, if_neg h]
theorem runEnd_ge (s : ByteArray) (i : Nat) : i ≤ runEnd s i := by
  fun_induction runEnd s i with
  | case1 i h ih => omega
  | case2 i h => exact Nat.le_refl _
theorem runEnd_le (s : ByteArray) (i : Nat) (h : i ≤ s.size) : runEnd s i ≤ s.size := by
  fun_induction runEnd s i with
  | case1 i h ih => exact ih (by omega)
  | case2 i h => exact h
theorem runEnd_gt (s : ByteArray) (i : Nat) (hi : i < s.size) (hb : blAt s i = false) : i < runEnd s i := by
  rw [runEnd_go hi hb]; exact runEnd_ge s (i + 1)
theorem runEnd_in (s : ByteArray) (i j : Nat) (h1 : i ≤ j) (h2 : j < runEnd s i) : j < s.size ∧ blAt s j = false := by
  fun_induction runEnd s i with
  | case1 i h ih =>
    by_cases e : i = j
    · exact e ▸ h
    · exact ih (by omega) h2
  | case2 i h => omega
theorem runEnd_at (s : ByteArray) (i : Nat) : ¬ (runEnd s i < s.size ∧ blAt s (runEnd s i) = false) := by
  fun_induction runEnd s i with
  | case1 i h ih => exact ih
  | case2 i h => exact h

/-- The runs from place i on. -/
def runsFrom (s : ByteArray) (i : Nat) : List (Nat × Nat) :=
  if h : i < s.size then (if hb : blAt s i = true then runsFrom s (i + 1) else (i, runEnd s i) :: runsFrom s (runEnd s i)) else []
  termination_by s.size - i
  decreasing_by
    · omega
    · have := runEnd_gt s i h (by simpa using hb); omega

theorem runsFrom_blank {s : ByteArray} {i : Nat} (h : i < s.size) (hb : blAt s i = true) : runsFrom s i = runsFrom s (i + 1) := by
  rw [runsFrom, dif_pos h, dif_pos hb]
theorem runsFrom_run {s : ByteArray} {i : Nat} (h : i < s.size) (hb : blAt s i = false) : runsFrom s i = (i, runEnd s i) :: runsFrom s (runEnd s i) := by
  rw [runsFrom, dif_pos h, dif_neg (by simp [hb])]
theorem runsFrom_end {s : ByteArray} {i : Nat} (h : s.size ≤ i) : runsFrom s i = [] := by
  rw [runsFrom, dif_neg (by omega)]

def runs (s : ByteArray) : List (Nat × Nat) := runsFrom s 0

/-- The end without the blanks behind it, from i down. -/
def endB (s : ByteArray) : Nat → Nat
  | 0 => 0
  | i + 1 => if blAt s i = true then endB s i else i + 1
theorem endB_le (s : ByteArray) : ∀ i, endB s i ≤ i
  | 0 => Nat.le_refl _
  | i + 1 => by
    unfold endB
    split
    · exact Nat.le_succ_of_le (endB_le s i)
    · exact Nat.le_refl _
theorem endB_gt (s : ByteArray) : ∀ i j, j < i → blAt s j = false → j < endB s i
  | 0, j, h, _ => by omega
  | i + 1, j, h, hb => by
    unfold endB
    split
    · rename_i h2
      by_cases e : j = i
      · subst e; simp [hb] at h2
      · exact endB_gt s i j (by omega) hb
    · exact h

/-- What a piece may be: its ends in order and in the text; it begins no later than E. -/
def okPc (s : ByteArray) (E : Nat) (p : Nat × Nat) : Prop := p.1 ≤ p.2 ∧ p.2 ≤ s.size ∧ p.1 ≤ E
theorem runsFrom_ok (s : ByteArray) (i : Nat) : ∀ p ∈ runsFrom s i, okPc s (endB s s.size) p := by
  fun_induction runsFrom s i with
  | case1 i h hb ih => exact ih
  | case2 i h hb ih =>
    intro p hp
    rcases List.mem_cons.1 hp with rfl | hp
    · exact ⟨runEnd_ge s i, runEnd_le s i (by omega), Nat.le_of_lt (endB_gt s _ _ h (by simpa using hb))⟩
    · exact ih p hp
  | case3 i h => intro p hp; simp at hp

/-- The single bytes' places, from i on. -/
def singlesFrom (s : ByteArray) (i : Nat) : List (Nat × Nat) :=
  if i < s.size then (i, i + 1) :: singlesFrom s (i + 1) else []
  termination_by s.size - i
theorem singlesFrom_ok (s : ByteArray) (i : Nat) : ∀ p ∈ singlesFrom s i, okPc s s.size p := by
  fun_induction singlesFrom s i with
  | case1 i h ih =>
    intro p hp
    rcases List.mem_cons.1 hp with rfl | hp
    · exact ⟨Nat.le_succ _, Nat.succ_le_of_lt h, Nat.le_of_lt h⟩
    · exact ih p hp
  | case2 i h => intro p hp; simp at hp
theorem singlesFrom_go {s : ByteArray} {i : Nat} (h : i < s.size) : singlesFrom s i = (i, i + 1) :: singlesFrom s (i + 1) := by
  rw [singlesFrom, if_pos h]
theorem singlesFrom_end {s : ByteArray} {i : Nat} (h : ¬ i < s.size) : singlesFrom s i = [] := by
  rw [singlesFrom, if_neg h]

/-- Where sep stands in the text from place i on, counted from i; -1: nowhere. -/
def ixAt (s sep : ByteArray) (i : Nat) : Int := Lib.indexB (s.extract i s.size) sep
theorem ixAt_cases (s sep : ByteArray) (i : Nat) (hi : i ≤ s.size) : ixAt s sep i = -1 ∨ ∃ x : Nat, ixAt s sep i = x ∧ i + x + sep.size ≤ s.size := by
  rcases Lib.indexB_cases (s.extract i s.size) sep with h | ⟨x, h1, h2⟩
  · exact .inl h
  · refine .inr ⟨x, h1, ?_⟩
    simp only [ByteArray.size_extract, Nat.min_self] at h2
    omega
/-- The pieces' places between the instances of sep, from i on. -/
def cutsFrom (s sep : ByteArray) (i : Nat) : List (Nat × Nat) :=
  if 0 ≤ ixAt s sep i ∧ 1 ≤ sep.size ∧ i + (ixAt s sep i).toNat + sep.size ≤ s.size then (i, i + (ixAt s sep i).toNat) :: cutsFrom s sep (i + (ixAt s sep i).toNat + sep.size) else [(i, s.size)]
  termination_by s.size - i
  decreasing_by
    omega
theorem cutsFrom_hit {s sep : ByteArray} {i x : Nat} (h1 : 1 ≤ sep.size) (h : ixAt s sep i = x) (hx : i + x + sep.size ≤ s.size) : cutsFrom s sep i = (i, i + x) :: cutsFrom s sep (i + x + sep.size) := by
  have e : (ixAt s sep i).toNat = x := by omega
  rw [cutsFrom, e, if_pos ⟨by omega, h1, hx⟩]
theorem cutsFrom_miss {s sep : ByteArray} {i : Nat} (h : ixAt s sep i = -1) : cutsFrom s sep i = [(i, s.size)] := by
  rw [cutsFrom, if_neg (by omega)]
theorem cutsFrom_ok (s sep : ByteArray) (i : Nat) (hi : i ≤ s.size) : ∀ p ∈ cutsFrom s sep i, okPc s s.size p := by
  fun_induction cutsFrom s sep i with
  | case1 i h ih =>
    intro p hp
    rcases List.mem_cons.1 hp with rfl | hp
    · exact ⟨by simp, by simp; omega, by simp; omega⟩
    · exact ih (by omega) p hp
  | case2 i h =>
    intro p hp
    obtain rfl := List.mem_singleton.1 hp
    exact ⟨hi, Nat.le_refl _, hi⟩

/-- The pieces' type: places that a slice of the text may have. -/
abbrev Pc (s : ByteArray) (E : Nat) : Type := { p : Nat × Nat // okPc s E p }
def mkP (s : ByteArray) (E : Nat) (l : List (Nat × Nat)) (h : ∀ p ∈ l, okPc s E p) : List (Pc s E) := l.attachWith (okPc s E) h
theorem mkP_map (s : ByteArray) (E : Nat) (l : List (Nat × Nat)) (h : ∀ p ∈ l, okPc s E p) : (mkP s E l h).map (fun p => p.1) = l := by
  unfold mkP List.attachWith
  rw [List.map_pmap]
  simp [List.pmap_eq_map]

/-- The fields out of the pieces: the last of 32768 is all the rest, to E. -/
def fieldsG (s : ByteArray) (E : Nat) (l : List (Nat × Nat)) : List ByteArray :=
  if l.length ≤ 32767 then l.map fun p => s.extract p.1 p.2
  else (l.take 32767).map (fun p => s.extract p.1 p.2) ++ [s.extract (l.getD 32767 (0, 0)).1 E]
/-- record.Fields(s, fs). -/
def fieldsOf (s fs : ByteArray) : List ByteArray :=
  if s.size = 0 then [] else if fs = ⟨#[32]⟩ then fieldsG s (endB s s.size) (runs s) else if fs.size = 0 then fieldsG s s.size (singlesFrom s 0) else fieldsG s s.size (cutsFrom s fs 0)

end Go.Proofs.YtlklnenlhmhcaaaDoor
