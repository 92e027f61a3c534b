/- The plain words of record.Fields at a blank: the runs of bytes that are no blanks, as places; conditions: none. -/
import Derived.Test.YtlklnenlhmhcaaaProg
import Derived.Test.YtlklnenlhmhcaaaWWords
namespace Go.Proofs.Ytlklnenlhmhcaaa
open Go.RowKit Go.Proofs.YtlklnenlhmhcaaaW.PrintWords

/-- A blank, as a Bool. -/
def blI (a : Int) : Bool := if a = 32 then true else if a ≥ 9 then decide (a ≤ 13) else false
/-- Is the byte at place i a blank? -/
def blAt (s : ByteArray) (i : Nat) : Bool := blI (bt s (i : Int))

/-- The place behind the run at i. -/
def runEnd (s : ByteArray) (i : Nat) : Nat :=
  if i < s.size ∧ blAt s i = false then runEnd s (i + 1) else i
  termination_by s.size - i

theorem runEnd_go {s : ByteArray} {i : Nat} (h : i < s.size) (hb : blAt s i = false) : runEnd s i = runEnd s (i + 1) := by
  rw [runEnd, if_pos ⟨h, hb⟩]
theorem runEnd_stop {s : ByteArray} {i : Nat} (h : ¬ (i < s.size ∧ blAt s i = false)) : runEnd s i = i := by
  rw [runEnd, if_neg h]
theorem runEnd_ge (s : ByteArray) (i : Nat) : i ≤ runEnd s i := by
  fun_induction runEnd s i with
  | case1 i h ih => omega
  | case2 i h => exact Nat.le_refl _
theorem runEnd_le (s : ByteArray) (i : Nat) (h : i ≤ s.size) : runEnd s i ≤ s.size := by
  fun_induction runEnd s i with
  | case1 i h ih => exact ih (by omega)
  | case2 i h => exact h
theorem runEnd_gt (s : ByteArray) (i : Nat) (hi : i < s.size) (hb : blAt s i = false) : i < runEnd s i := by
  rw [runEnd_go hi hb]; exact runEnd_ge s (i + 1)
theorem runEnd_in (s : ByteArray) (i j : Nat) (h1 : i ≤ j) (h2 : j < runEnd s i) : j < s.size ∧ blAt s j = false := by
  fun_induction runEnd s i with
  | case1 i h ih =>
    by_cases e : i = j
    · exact e ▸ h
    · exact ih (by omega) h2
  | case2 i h => omega
theorem runEnd_at (s : ByteArray) (i : Nat) : ¬ (runEnd s i < s.size ∧ blAt s (runEnd s i) = false) := by
  fun_induction runEnd s i with
  | case1 i h ih => exact ih
  | case2 i h => exact h

/-- The runs from place i on. -/
def runsFrom (s : ByteArray) (i : Nat) : List (Nat × Nat) :=
  if h : i < s.size then (if hb : blAt s i = true then runsFrom s (i + 1) else (i, runEnd s i) :: runsFrom s (runEnd s i)) else []
  termination_by s.size - i
  decreasing_by
    · omega
    · have := runEnd_gt s i h (by simpa using hb); omega

theorem runsFrom_blank {s : ByteArray} {i : Nat} (h : i < s.size) (hb : blAt s i = true) : runsFrom s i = runsFrom s (i + 1) := by
  rw [runsFrom, dif_pos h, dif_pos hb]
theorem runsFrom_run {s : ByteArray} {i : Nat} (h : i < s.size) (hb : blAt s i = false) : runsFrom s i = (i, runEnd s i) :: runsFrom s (runEnd s i) := by
  rw [runsFrom, dif_pos h, dif_neg (by simp [hb])]
theorem runsFrom_end {s : ByteArray} {i : Nat} (h : s.size ≤ i) : runsFrom s i = [] := by
  rw [runsFrom, dif_neg (by omega)]

def runs (s : ByteArray) : List (Nat × Nat) := runsFrom s 0

/-- The end without the blanks behind it, from i down. -/
def endB (s : ByteArray) : Nat → Nat
  | 0 => 0
  | i + 1 => if blAt s i = true then endB s i else i + 1
theorem endB_le (s : ByteArray) : ∀ i, endB s i ≤ i
  | 0 => Nat.le_refl _
  | i + 1 => by
    unfold endB
    split
    · exact Nat.le_succ_of_le (endB_le s i)
    · exact Nat.le_refl _
theorem endB_gt (s : ByteArray) : ∀ i j, j < i → blAt s j = false → j < endB s i
  | 0, j, h, _ => by omega
  | i + 1, j, h, hb => by
    unfold endB
    split
    · rename_i h2
      by_cases e : j = i
      · subst e; simp [hb] at h2
      · exact endB_gt s i j (by omega) hb
    · exact h

/-- What a piece of the runs may be: its ends in order and in the text. -/
def okPc (s : ByteArray) (p : Nat × Nat) : Prop := p.1 ≤ p.2 ∧ p.2 ≤ s.size ∧ p.1 ≤ endB s s.size
theorem runsFrom_ok (s : ByteArray) (i : Nat) : ∀ p ∈ runsFrom s i, okPc s p := by
  fun_induction runsFrom s i with
  | case1 i h hb ih => exact ih
  | case2 i h hb ih =>
    intro p hp
    rcases List.mem_cons.1 hp with rfl | hp
    · exact ⟨runEnd_ge s i, runEnd_le s i (by omega), Nat.le_of_lt (endB_gt s _ _ h (by simpa using hb))⟩
    · exact ih p hp
  | case3 i h => intro p hp; simp at hp

/-- The pieces' type: places that a slice of the text may have. -/
abbrev Pc (s : ByteArray) : Type := { p : Nat × Nat // okPc s p }
def runsP (s : ByteArray) : List (Pc s) := (runs s).attachWith (okPc s) (fun p hp => runsFrom_ok s 0 p hp)
theorem runsP_map (s : ByteArray) : (runsP s).map (fun p => p.1) = runs s := by
  unfold runsP List.attachWith
  rw [List.map_pmap]
  simp [List.pmap_eq_map]

/-- record.Fields(s, " "): the runs, the last of 32768 being all the rest. -/
def fieldsB (s : ByteArray) : List ByteArray :=
  if (runs s).length ≤ 32767 then (runs s).map fun p => s.extract p.1 p.2
  else ((runs s).take 32767).map (fun p => s.extract p.1 p.2) ++ [s.extract ((runs s).getD 32767 (0, 0)).1 (endB s s.size)]

end Go.Proofs.Ytlklnenlhmhcaaa
