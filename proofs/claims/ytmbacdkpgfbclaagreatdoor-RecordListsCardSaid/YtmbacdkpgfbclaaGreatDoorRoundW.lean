/- numeral.Round walked: a row of digits cut to so many, the last one rounded; conditions: the row is shorter than 2^47. -/
import Derived.Test.YtmbacdkpgfbclaaGreatDoorInBaseW
import Derived.Laws.IdiomStrings
import Derived.Laws.Strings
import Derived.Lib.TrimByte
namespace Go.Proofs.YtmbacdkpgfbclaaGreatDoor.Num
set_option linter.unusedVariables false
set_option linter.unusedSimpArgs false

/-- How many nines stand at a row's end. -/
def nines (l : List UInt8) : Nat := (l.reverse.takeWhile (fun c => c == 57)).length
theorem nines_le (l : List UInt8) : nines l ≤ l.length := by
 unfold nines; have := (List.takeWhile_prefix (p := fun c : UInt8 => c == 57) (l := l.reverse)).length_le; rwa [List.length_reverse] at this
/-- A row with one added at its last place, and whether that is carried out. -/
def bump (l : List UInt8) : List UInt8 × Bool :=
 if nines l = l.length then (List.replicate l.length 48, true)
 else (l.take (l.length - nines l - 1) ++ [l.getD (l.length - nines l - 1) 0 + 1] ++ List.replicate (nines l) 48, false)
theorem bump_length (l : List UInt8) : (bump l).1.length = l.length := by
 unfold bump; have := nines_le l; split
 · simp
 simp [List.length_take]; omega
end Go.Proofs.YtmbacdkpgfbclaaGreatDoor.Num
namespace Go.Proofs.YtmbacdkpgfbclaaGreatDoor
open Go.RowKit Go.Proofs.YtmbacdkpgfbclaaGreatDoorW.PrintWords Go.Proofs.YtmbacdkpgfbclaaGreatDoorW.PrintLast Num
set_option linter.unusedVariables false
set_option linter.unusedSimpArgs false
def dig1 (b : UInt8) : Bool := decide (48 ≤ b.toNat) && decide (b.toNat ≤ 57)
/-- Are all of its bytes digits? -/
def digAll (s : ByteArray) : Bool := s.data.toList.all dig1
def restR (s : ByteArray) (K : Nat) (more : Bool) : Bool := more || !(Lib.trimB (s.data.toList.drop (K + 1)) 48).isEmpty
def oddR (s : ByteArray) (K : Nat) : Bool := decide (0 < K) && decide ((s.data.toList.getD (K - 1) 0).toNat % 2 = 1)
def downR (s : ByteArray) (K : Nat) (more : Bool) : Bool := decide ((s.data.toList.getD K 0).toNat < 53) || (decide ((s.data.toList.getD K 0).toNat = 53) && !restR s K more && !oddR s K)
def roundR (s : ByteArray) (K : Nat) (more : Bool) : List UInt8 × Bool := if downR s K more = true then (s.data.toList.take K, false) else bump (s.data.toList.take K)
/-- What Round answers. -/
def roundF (s : ByteArray) (keep : Int) (more : Bool) : ByteArray × Bool × Int :=
 if keep < 0 then (⟨#[]⟩, false, 1)
 else if s.size = 0 then (⟨#[]⟩, false, 30)
 else if digAll s = false then (⟨#[]⟩, false, 31)
 else if (s.size : Int) ≤ keep then (s, false, 0)
 else (⟨(roundR s keep.toNat more).1.toArray⟩, (roundR s keep.toNat more).2, 0)
theorem getD_at (s : ByteArray) {i : Nat} (h : i < s.size) : s.data.toList.getD i 0 = s[i]'h := by
 rw [List.getD_eq_getElem?_getD, List.getElem?_eq_getElem (by simpa using h)]; rfl
/-- A row of bytes, its mark behind them. -/
def BR (w : World) (g : Nat) (l : List UInt8) : Prop := ∃ (cs : Array Value) (lo hi : Nat), w.heap[g]? = some (.cells cs 5 (lo, hi)) ∧ l.length ≤ lo ∧ ∀ j (hj : j < l.length), cs[j]? = some (.int .u8 ((l[j]'hj).toNat : Int))
theorem BR.cell {w : World} {g : Nat} {l : List UInt8} (h : BR w g l) {j : Nat} (hj : j < l.length) : w.cell? ⟨g, j, none⟩ = some (.int .u8 ((l[j]'hj).toNat : Int)) := by
 obtain ⟨cs, lo, hi, h1, h2, h3⟩ := h; rw [cell_of_row w g j cs _ _ h1]; exact h3 j hj
theorem BR.frozen {w : World} {g : Nat} {l : List UInt8} (h : BR w g l) {j : Nat} (hj : j < l.length) : w.frozen? ⟨g, j, none⟩ = false := by
 obtain ⟨cs, lo, hi, h1, h2, h3⟩ := h; unfold World.frozen?; rw [h1]; have : ¬ lo ≤ j := by omega
 simp [this]
theorem BR.put {w : World} {g : Nat} {l : List UInt8} (h : BR w g l) {j : Nat} (hj : j < l.length) (x : UInt8) : BR (w.setCell ⟨g, j, none⟩ (.int .u8 (x.toNat : Int))) g (l.set j x) := by
 obtain ⟨cs, lo, hi, h1, h2, h3⟩ := h; refine ⟨cs.setIfInBounds j (.int .u8 (x.toNat : Int)), lo, hi, by simp [World.setCell, Array.getElem?_modify, h1], by rw [List.length_set]; exact h2, fun i hi2 => ?_⟩; rw [List.length_set] at hi2; have hjc : j < cs.size := (Array.getElem?_eq_some_iff.1 (h3 j hj)).1; rw [Array.getElem?_setIfInBounds]; by_cases e : j = i
 · subst e; simp [hjc]
 rw [if_neg e, h3 i hi2]; simp [List.getElem_set, e]
theorem BR.back {w : World} {g : Nat} {l : List UInt8} (h : BR w g l) (cap : Nat) : (convert 119 9 (.slice (some ⟨g, 0, none⟩) l.length cap)).run Tryz.prog w = .ok (.string ⟨l.toArray⟩) w :=
 run_convert_bytes_back (P := Tryz.prog) w 119 9 5 ⟨g, 0, none⟩ cap l Tryz.underlying119 Tryz.underlying5 Tryz.underlying9 fun j hj => by
  rw [add_plain]
  exact h.cell hj
def RoundPost (s : ByteArray) (keep : Int) (more : Bool) (w : World) (e : Ending) (w' : World) : Prop := e = .returned (.tuple #[.string (roundF s keep more).1, .bool (roundF s keep more).2.1, .int .i64 (roundF s keep more).2.2]) ∧ Below w.heap.size w w'
end Go.Proofs.YtmbacdkpgfbclaaGreatDoor
