/- Texts as rows of bytes: the words that the printed functions use, said of rows; plain, no program; conditions: none. -/
import Derived.Test.YtgbjojokjekmhaaGreatDoorInBaseW
import Derived.Laws.IdiomStrings
import Derived.Laws.Strings
import Derived.Lib.TrimByte
import Derived.Lib.Repeat
import Derived.Lib.Case
namespace Go.Proofs.YtgbjojokjekmhaaGreatDoor.Num
set_option linter.unusedVariables false
set_option linter.unusedSimpArgs false

/-- How many nines stand at a row's end. -/
def nines (l : List UInt8) : Nat := (l.reverse.takeWhile (fun c => c == 57)).length
theorem nines_le (l : List UInt8) : nines l ≤ l.length := by
 unfold nines; have := (List.takeWhile_prefix (p := fun c : UInt8 => c == 57) (l := l.reverse)).length_le; rwa [List.length_reverse] at this
/-- A row with one added at its last place, and whether that is carried out. -/
def bump (l : List UInt8) : List UInt8 × Bool :=
 if nines l = l.length then (List.replicate l.length 48, true)
 else (l.take (l.length - nines l - 1) ++ [l.getD (l.length - nines l - 1) 0 + 1] ++ List.replicate (nines l) 48, false)
theorem bump_length (l : List UInt8) : (bump l).1.length = l.length := by
 unfold bump; have := nines_le l; split
 · simp
 simp [List.length_take]; omega
/-- The row's last j places are nines, the one ahead of them is none. -/
theorem nines_eq {l : List UInt8} {j : Nat} (hj : j < l.length) (h9 : ∀ i, l.length - j ≤ i → i < l.length → l.getD i 0 = 57) (hn : l.getD (l.length - j - 1) 0 ≠ 57) : nines l = j := by
 have key : ∀ (r : List UInt8) (j : Nat), j < r.length → (∀ i, i < j → r.getD i 0 = 57) → r.getD j 0 ≠ 57 → (r.takeWhile (fun c => c == 57)).length = j := by
  intro r; induction r with
  | nil => intro j h; exact absurd h (Nat.not_lt_zero _)
  | cons x r ih =>
   intro j hj h9 hn; cases j with
   | zero =>
    have hx : x ≠ 57 := hn; have hx2 : (x == 57) = false := by simpa using hx
    rw [List.takeWhile_cons_of_neg (by rw [hx2]; decide)]; rfl
   | succ j =>
    have hx : x = 57 := h9 0 (by omega); have hx2 : (x == 57) = true := by simpa using hx
    rw [List.takeWhile_cons_of_pos (by exact hx2), List.length_cons, ih j (by simpa using hj) (fun i hi => h9 (i + 1) (by omega)) hn]
 unfold nines; refine key _ j (by rw [List.length_reverse]; exact hj) (fun i hi => ?_) ?_
 · rw [List.getD_eq_getElem?_getD, List.getElem?_reverse (by omega), ← List.getD_eq_getElem?_getD]; exact h9 _ (by omega) (by omega)
 rw [List.getD_eq_getElem?_getD, List.getElem?_reverse (by omega), ← List.getD_eq_getElem?_getD]; rw [show l.length - 1 - j = l.length - j - 1 by omega]; exact hn
theorem nines_all {l : List UInt8} (h9 : ∀ i, i < l.length → l.getD i 0 = 57) : nines l = l.length := by
 unfold nines; have key : ∀ r : List UInt8, (∀ x ∈ r, x = 57) → r.takeWhile (fun c => c == 57) = r := by
  intro r; induction r with
  | nil => intro _; rfl
  | cons x r ih =>
   intro h; have hx : (x == 57) = true := by simpa using h x (List.mem_cons_self ..)
   rw [List.takeWhile_cons_of_pos (by exact hx), ih (fun y hy => h y (List.mem_cons_of_mem _ hy))]
 have : l.reverse.takeWhile (fun c => c == 57) = l.reverse := by
  refine key _ fun x hx => ?_
  rw [List.mem_reverse] at hx; obtain ⟨i, hi, rfl⟩ := List.mem_iff_getElem.1 hx; have := h9 i hi; rw [List.getD_eq_getElem?_getD, List.getElem?_eq_getElem hi] at this; exact this
 rw [this, List.length_reverse]
end Go.Proofs.YtgbjojokjekmhaaGreatDoor.Num
namespace Go.Proofs.YtgbjojokjekmhaaGreatDoor
open Go.RowKit Go.Proofs.YtgbjojokjekmhaaGreatDoorW.PrintWords Go.Proofs.YtgbjojokjekmhaaGreatDoorW.PrintLast Num
set_option linter.unusedVariables false
set_option linter.unusedSimpArgs false
def dig1 (b : UInt8) : Bool := decide (48 ≤ b.toNat) && decide (b.toNat ≤ 57)
/-- Are all of its bytes digits? -/
def digAll (s : ByteArray) : Bool := s.data.toList.all dig1
def restR (s : ByteArray) (K : Nat) (more : Bool) : Bool := more || !(Lib.trimB (s.data.toList.drop (K + 1)) 48).isEmpty
def oddR (s : ByteArray) (K : Nat) : Bool := decide (0 < K) && decide ((s.data.toList.getD (K - 1) 0).toNat % 2 = 1)
def downR (s : ByteArray) (K : Nat) (more : Bool) : Bool := decide ((s.data.toList.getD K 0).toNat < 53) || (decide ((s.data.toList.getD K 0).toNat = 53) && !restR s K more && !oddR s K)
def roundR (s : ByteArray) (K : Nat) (more : Bool) : List UInt8 × Bool := if downR s K more = true then (s.data.toList.take K, false) else bump (s.data.toList.take K)
/-- What Round answers. -/
def roundF (s : ByteArray) (keep : Int) (more : Bool) : ByteArray × Bool × Int :=
 if keep < 0 then (⟨#[]⟩, false, 1)
 else if s.size = 0 then (⟨#[]⟩, false, 30)
 else if digAll s = false then (⟨#[]⟩, false, 31)
 else if (s.size : Int) ≤ keep then (s, false, 0)
 else (⟨(roundR s keep.toNat more).1.toArray⟩, (roundR s keep.toNat more).2, 0)
theorem dig_at {s : ByteArray} (h : digAll s = true) (i : Nat) (hi : i < s.size) : 48 ≤ (s[i]'hi).toNat ∧ (s[i]'hi).toNat ≤ 57 := by
 unfold digAll at h; rw [List.all_eq_true] at h; have h2 := h (s[i]'hi) (by
  have : s[i]'hi = s.data.toList[i]'(by simpa using hi) := rfl; rw [this]; exact List.getElem_mem _)
 unfold dig1 at h2; simpa using h2
theorem dig_no {s : ByteArray} {i : Nat} (hi : i < s.size) (h : ¬ (48 ≤ (s[i]'hi).toNat ∧ (s[i]'hi).toNat ≤ 57)) : digAll s = false := by
 cases hd : digAll s with
 | false => rfl
 | true => exact absurd (dig_at hd i hi) h
theorem dig_yes {s : ByteArray} (h : ∀ i (hi : i < s.size), 48 ≤ (s[i]'hi).toNat ∧ (s[i]'hi).toNat ≤ 57) : digAll s = true := by
 unfold digAll; rw [List.all_eq_true]; intro x hx; obtain ⟨i, hi, rfl⟩ := List.mem_iff_getElem.1 hx; have h2 := h i (by simpa using hi); unfold dig1; have e : s[i]'(by simpa using hi) = s.data.toList[i] := rfl; rw [e] at h2; simp only [h2, decide_true, Bool.and_self]
theorem ext_drop (s : ByteArray) (k : Nat) : (s.extract k s.size).data.toList = s.data.toList.drop k := by
 rw [ByteArray.data_extract, Array.toList_extract]; have : s.size = s.data.toList.length := by simp
 rw [this]; simp only [List.extract]; exact List.take_of_length_le (by rw [List.length_drop]; exact Nat.le_refl _)
theorem ext_take (s : ByteArray) (k : Nat) : (s.extract 0 k).data.toList = s.data.toList.take k := by
 rw [ByteArray.data_extract, Array.toList_extract]; simp [List.extract]
theorem getD_at (s : ByteArray) {i : Nat} (h : i < s.size) : s.data.toList.getD i 0 = s[i]'h := by
 rw [List.getD_eq_getElem?_getD, List.getElem?_eq_getElem (by simpa using h)]; rfl
/-- A row of bytes, its mark behind them. -/
def BR (w : World) (g : Nat) (l : List UInt8) : Prop := ∃ (cs : Array Value) (lo hi : Nat), w.heap[g]? = some (.cells cs 5 (lo, hi)) ∧ l.length ≤ lo ∧ ∀ j (hj : j < l.length), cs[j]? = some (.int .u8 ((l[j]'hj).toNat : Int))
theorem BR.cell {w : World} {g : Nat} {l : List UInt8} (h : BR w g l) {j : Nat} (hj : j < l.length) : w.cell? ⟨g, j, none⟩ = some (.int .u8 ((l[j]'hj).toNat : Int)) := by
 obtain ⟨cs, lo, hi, h1, h2, h3⟩ := h; rw [cell_of_row w g j cs _ _ h1]; exact h3 j hj
theorem BR.frozen {w : World} {g : Nat} {l : List UInt8} (h : BR w g l) {j : Nat} (hj : j < l.length) : w.frozen? ⟨g, j, none⟩ = false := by
 obtain ⟨cs, lo, hi, h1, h2, h3⟩ := h; unfold World.frozen?; rw [h1]; have : ¬ lo ≤ j := by omega
 simp [this]
theorem BR.put {w : World} {g : Nat} {l : List UInt8} (h : BR w g l) {j : Nat} (hj : j < l.length) (x : UInt8) : BR (w.setCell ⟨g, j, none⟩ (.int .u8 (x.toNat : Int))) g (l.set j x) := by
 obtain ⟨cs, lo, hi, h1, h2, h3⟩ := h; refine ⟨cs.setIfInBounds j (.int .u8 (x.toNat : Int)), lo, hi, by simp [World.setCell, Array.getElem?_modify, h1], by rw [List.length_set]; exact h2, fun i hi2 => ?_⟩; rw [List.length_set] at hi2; have hjc : j < cs.size := (Array.getElem?_eq_some_iff.1 (h3 j hj)).1; rw [Array.getElem?_setIfInBounds]; by_cases e : j = i
 · subst e; simp [hjc]
 rw [if_neg e, h3 i hi2]; simp [List.getElem_set, e]
theorem BR.back {w : World} {g : Nat} {l : List UInt8} (h : BR w g l) (cap : Nat) : (convert 30 9 (.slice (some ⟨g, 0, none⟩) l.length cap)).run Tryz.prog w = .ok (.string ⟨l.toArray⟩) w :=
 run_convert_bytes_back (P := Tryz.prog) w 30 9 5 ⟨g, 0, none⟩ cap l Tryz.underlying30 Tryz.underlying5 Tryz.underlying9 fun j hj => by
  rw [add_plain]
  exact h.cell hj
def RoundPost (s : ByteArray) (keep : Int) (more : Bool) (w : World) (e : Ending) (w' : World) : Prop := e = .returned (.tuple #[.string (roundF s keep more).1, .bool (roundF s keep more).2.1, .int .i64 (roundF s keep more).2.2]) ∧ Below w.heap.size w w'
set_option maxRecDepth 100000 in
set_option maxHeartbeats 8000000 in
theorem Round_walk (s : ByteArray) (keep : Int) (more : Bool) (w : World) (hs : s.size ≤ 140737488355328) (hk : keep ≤ 9223372036854775807)
  (HTr : ∀ (t : ByteArray) (u : World), t.size ≤ 9223372036854775807 → Calls Tryz.prog 142 #[.string t, .string ⟨#[48]⟩] u fun e u' => e = .returned (.string ⟨(Lib.trimB t.data.toList 48).toArray⟩) ∧ ∃ n, u' = u.drewN n) :
  Calls Tryz.prog 93 #[.string s, .int .i64 keep, .bool more] w (RoundPost s keep more w) := by
 have HTT := Lib.hid HTr; clear HTr; by_cases h1 : keep < 0
 ·
  have d1 : decide (keep < 0) = true := decide_eq_true h1; have hR : roundF s keep more = (⟨#[]⟩, false, 1) := by unfold roundF; rw [if_pos h1]
  have HR := Lib.hid hR; clear hR h1; go_enter Tryz.func93, Tryz.ntmps93; go_wp2_with fail; go_ret3
  unfold RoundPost; rw [HR.out]; exact ⟨rfl, Below.refl _ _⟩
 have d1 : decide (keep < 0) = false := decide_eq_false h1; by_cases h2 : s.size = 0
 ·
  obtain rfl : s = ⟨#[]⟩ := by
   obtain ⟨d⟩ := s; have : d.size = 0 := h2; rw [Array.eq_empty_of_size_eq_zero this]
  have hR : roundF ⟨#[]⟩ keep more = (⟨#[]⟩, false, 30) := by unfold roundF; rw [if_neg h1, if_pos (show (⟨#[]⟩ : ByteArray).size = 0 from rfl)]
  have HR := Lib.hid hR; clear hR h1 h2; go_enter Tryz.func93, Tryz.ntmps93; go_wp2_with fail; go_ret3
  unfold RoundPost; rw [HR.out]; exact ⟨rfl, Below.refl _ _⟩
 have hne : s.toList.isEmpty = false := by
  rw [ByteArray.toList_eq]; cases hd : s.data.toList with
  | nil => exact absurd (by have := congrArg List.length hd; simpa using this) h2
  | cons x r => rfl
 have hk0 : 0 ≤ keep := by omega
 have hsi : (s.size : Int) ≤ 140737488355328 := by omega
 have H1 := Lib.hid h1; have H2 := Lib.hid h2; clear h1 h2; go_enter Tryz.func93, Tryz.ntmps93; go_wp2_with fail; go_loopg [9] s.size (fun d s9 wx => ∃ i : Nat, s9 = .int .i64 (i : Int) ∧ wx = w ∧ Aside0 (∀ j (hj : j < s.size), j < i → 48 ≤ (s[j]'hj).toNat ∧ (s[j]'hj).toNat ≤ 57) ∧ Aside0 (d = s.size - i) ∧ i ≤ s.size)
 case atStart => exact ⟨0, rfl, rfl, ⟨fun j hj h => absurd h (Nat.not_lt_zero _)⟩, ⟨rfl⟩, Nat.zero_le _⟩
 case round =>
  obtain ⟨i, rfl, rfl, R1, R2, hi⟩ := hrel; by_cases hlt : i < s.size
  ·
   have e1 : decide ((i : Int) < (s.size : Int)) = true := decide_eq_true (by omega); have e1n : decide (i < s.size) = true := decide_eq_true hlt; by_cases hb1 : (s[i]'hlt).toNat < 48
   ·
    have b1 : decide (((s[i]'hlt).toNat : Int) < 48) = true := decide_eq_true (by omega); have b1n : decide ((s[i]'hlt).toNat < 48) = true := decide_eq_true hb1; have hR : roundF s keep more = (⟨#[]⟩, false, 31) := by
     unfold roundF; rw [if_neg (by omega), if_neg H2.out, if_pos (dig_no hlt (by omega))]
    have HR := Lib.hid hR; clear hR hb1; go_wp2_with fail; go_ret3
    unfold RoundPost; rw [HR.out]; exact ⟨rfl, Below.refl _ _⟩
   have b1 : decide (((s[i]'hlt).toNat : Int) < 48) = false := decide_eq_false (by omega); have b1n : decide ((s[i]'hlt).toNat < 48) = false := decide_eq_false hb1; by_cases hb2 : 57 < (s[i]'hlt).toNat
   ·
    have b2 : decide (57 < ((s[i]'hlt).toNat : Int)) = true := decide_eq_true (by omega); have b2n : decide (57 < (s[i]'hlt).toNat) = true := decide_eq_true hb2; have hR : roundF s keep more = (⟨#[]⟩, false, 31) := by
     unfold roundF; rw [if_neg (by omega), if_neg H2.out, if_pos (dig_no hlt (by omega))]
    have HR := Lib.hid hR; clear hR hb1 hb2; go_wp2_with fail; go_ret3
    unfold RoundPost; rw [HR.out]; exact ⟨rfl, Below.refl _ _⟩
   have b2 : decide (57 < ((s[i]'hlt).toNat : Int)) = false := decide_eq_false (by omega); have b2n : decide (57 < (s[i]'hlt).toNat) = false := decide_eq_false hb2; go_wp2_with fail; go_roundg (s.size - (i + 1))
   case measure => rw [R2.out]; omega
   case rel =>
    refine ⟨i + 1, (by go_num), rfl, ⟨fun j hj h => ?_⟩, ⟨rfl⟩, by omega⟩; rcases Nat.lt_or_ge j i with h2 | h2
    · exact R1.out j hj h2
    obtain rfl : j = i := by omega
    exact ⟨by omega, by omega⟩
  obtain rfl : i = s.size := by omega
  have e1 : decide ((s.size : Int) < (s.size : Int)) = false := decide_eq_false (by omega); have hdig : digAll s = true := dig_yes fun j hj => R1.out j hj hj
  have HDig := Lib.hid hdig; clear hdig hlt R1 R2; by_cases hke : (s.size : Int) ≤ keep
  ·
   have e2 : decide ((s.size : Int) ≤ keep) = true := decide_eq_true hke; have hR : roundF s keep more = (s, false, 0) := by
    unfold roundF; rw [if_neg (by omega), if_neg H2.out, if_neg (by rw [HDig.out]; decide), if_pos hke]
   have HR := Lib.hid hR; clear hR; go_wp2_with fail; go_ret3
   unfold RoundPost; rw [HR.out]; exact ⟨rfl, Below.refl _ _⟩
  have e2 : decide ((s.size : Int) ≤ keep) = false := decide_eq_false hke; obtain ⟨K, rfl⟩ : ∃ K : Nat, keep = (K : Int) := ⟨keep.toNat, by omega⟩; have hK : K < s.size := by omega
  have hKi : (K : Int) < (s.size : Int) := by omega
  have hR : roundF s (K : Int) more = (⟨(roundR s K more).1.toArray⟩, (roundR s K more).2, 0) := by
   unfold roundF; rw [if_neg (by omega), if_neg H2.out, if_neg (by rw [HDig.out]; decide), if_neg hke, Int.toNat_natCast]
  have HR := Lib.hid hR; clear hR hke; go_upto_region 13 with fail
  go_cut [11] (fun s11 wx => s11 = .bool (restR s K more) ∧ ∃ n, wx = wr.drewN n)
  case first =>
   cases more with
   | true =>
    go_wp2_with fail; go_meet
    exact ⟨rfl, 0, rfl⟩
   | false =>
    have hsz : (s.extract (K + 1) s.size).size ≤ 9223372036854775807 := by
     have h : (s.extract (K + 1) s.size).data.toList.length ≤ s.data.toList.length := by rw [ext_drop, List.length_drop]; omega
     have h2 : s.data.toList.length = s.size := by simp
     have h3 : (s.extract (K + 1) s.size).data.toList.length = (s.extract (K + 1) s.size).size := by simp
     omega
    have HC := Lib.hid (HTT.out (s.extract (K + 1) s.size) wr hsz); clear hsz; go_wp2_with fail; refine HC.out.mono ?_; rintro e w2 ⟨rfl, n, rfl⟩; rw [ext_drop]; obtain ⟨L, hL⟩ : ∃ L, Lib.trimB (s.data.toList.drop (K + 1)) 48 = L := ⟨_, rfl⟩; have hrest : restR s K false = !L.isEmpty := by unfold restR; rw [hL]; rfl
    have HRest := Lib.hid hrest; have hemp : (⟨L.toArray⟩ : ByteArray).toList.isEmpty = L.isEmpty := by rw [ByteArray.toList_eq]
    rw [hL]; clear hL hrest; go_wp2_with fail; go_meet
    exact ⟨by rw [HRest.out], n, rfl⟩
  case rest =>
   obtain ⟨rfl, n, rfl⟩ := hcut; obtain ⟨rs, hrs⟩ : ∃ rs, restR s K more = rs := ⟨_, rfl⟩; rw [hrs]; have HRS := Lib.hid hrs; clear hrs; go_upto_region 14 with fail
   go_cut [12] (fun s12 wx => s12 = .bool (oddR s K) ∧ wx = wr.drewN n)
   case first =>
    by_cases hK0 : K = 0
    ·
     subst hK0; go_wp2_with fail; go_meet
     exact ⟨rfl, rfl⟩
    obtain ⟨k1, rfl⟩ : ∃ k1, K = k1 + 1 := ⟨K - 1, by omega⟩; have hk1 : k1 < s.size := by omega
    have d9 : decide (0 < ((k1 + 1 : Nat) : Int)) = true := decide_eq_true (by omega); have d9n : decide (0 < (k1 : Int) + 1) = true := decide_eq_true (by omega); obtain ⟨h48, h57⟩ := dig_at HDig.out k1 hk1; have h48i : 48 ≤ ((s[k1]'hk1).toNat : Int) := by omega
    have h57i : ((s[k1]'hk1).toNat : Int) ≤ 57 := by omega
    go_wp2_with fail; go_meet
    refine ⟨congrArg Value.bool ?_, rfl⟩; unfold oddR; rw [Nat.add_sub_cancel, show s.data.toList.getD k1 0 = s[k1]'hk1 from getD_at s hk1]; generalize (s[k1]'hk1).toNat = x at *; rw [Bool.eq_iff_iff]; simp; omega
   case rest =>
    obtain ⟨rfl, rfl⟩ := hcut; obtain ⟨od, hod⟩ : ∃ od, oddR s K = od := ⟨_, rfl⟩; rw [hod]; have hdown : downR s K more = (decide ((s[K]'hK).toNat < 53) || (decide ((s[K]'hK).toNat = 53) && !rs && !od)) := by
     unfold downR; rw [HRS.out, hod, getD_at s hK]
    have HDn := Lib.hid hdown; clear hod hdown; go_upto_region 15 with fail
    go_cut [76] (fun s76 wx => s76 = .bool (downR s K more) ∧ wx = wr.drewN n)
    case first =>
     by_cases n1 : (s[K]'hK).toNat < 53
     ·
      have f1 : decide (((s[K]'hK).toNat : Int) < 53) = true := decide_eq_true (by omega); have f1n : decide ((s[K]'hK).toNat < 53) = true := decide_eq_true n1; clear n1; go_wp2_with fail; go_meet
      exact ⟨congrArg Value.bool (by rw [HDn.out, f1n]; rfl), rfl⟩
     have f1 : decide (((s[K]'hK).toNat : Int) < 53) = false := decide_eq_false (by omega); have f1n : decide ((s[K]'hK).toNat < 53) = false := decide_eq_false n1; by_cases n2 : (s[K]'hK).toNat = 53
     ·
      have f2 : (((s[K]'hK).toNat : Int) == 53) = true := beq_iff_eq.mpr (by omega); have f2n : decide ((s[K]'hK).toNat = 53) = true := decide_eq_true n2; clear n1 n2; cases rs
      all_goals
       cases od
       all_goals
        go_wp2_with fail; go_meet
        exact ⟨congrArg Value.bool (by rw [HDn.out, f1n, f2n]; rfl), rfl⟩
     have f2 : (((s[K]'hK).toNat : Int) == 53) = false := beq_eq_false_iff_ne.mpr (by omega); have f2n : decide ((s[K]'hK).toNat = 53) = false := decide_eq_false n2; clear n1 n2; go_wp2_with fail; go_meet
     exact ⟨congrArg Value.bool (by rw [HDn.out, f1n, f2n]; rfl), rfl⟩
    case rest =>
     obtain ⟨rfl, rfl⟩ := hcut; cases hdn : downR s K more with
     | true =>
      have hrr : roundR s K more = (s.data.toList.take K, false) := by unfold roundR; rw [if_pos hdn]
      have HRR := Lib.hid hrr; clear hdn hrr; go_wp2_with fail; go_ret3
      unfold RoundPost; rw [HR.out, HRR.out]; refine ⟨?_, pw_below_drewN (Below.refl _ _) _⟩; have hx : s.extract 0 K = (⟨(s.data.toList.take K).toArray⟩ : ByteArray) := by
       rw [← ext_take s K]
      rw [hx]; rfl
     | false =>
      have hrr : roundR s K more = bump (s.data.toList.take K) := by unfold roundR; rw [if_neg (by rw [hdn]; decide)]
      have HRR := Lib.hid hrr; clear hdn hrr; have hts : (s.extract 0 K).size = K := by
       have h3 : (s.extract 0 K).data.toList.length = (s.extract 0 K).size := by simp
       rw [← h3, ext_take, List.length_take]; have h2 : s.data.toList.length = s.size := by simp
       omega
      obtain ⟨cap, hcap⟩ : ∃ cap, cap = grownCap (wr.drewN n) K 0 5 := ⟨_, rfl⟩; have hcv : (convert 9 30 (.string (s.extract 0 K))).run Tryz.prog (wr.drewN n) = .ok (.slice (some ⟨(wr.drewN n).heap.size, 0, none⟩) K cap) ((wr.drewN n).drew.alloc (.cells (bytesRow (s.extract 0 K) cap) 5 ((bytesRow (s.extract 0 K) cap).size, (bytesRow (s.extract 0 K) cap).size + 1))) := by
       have h := run_bytes_of_string (P := Tryz.prog) (wr.drewN n) 9 30 5 (s.extract 0 K) Tryz.underlying9 Tryz.underlying30 Tryz.underlying5; rw [hts, ← hcap] at h; exact h
      obtain ⟨W4, hW4⟩ : ∃ W4, W4 = (wr.drewN n).drew.alloc (.cells (bytesRow (s.extract 0 K) cap) 5 ((bytesRow (s.extract 0 K) cap).size, (bytesRow (s.extract 0 K) cap).size + 1)) := ⟨_, rfl⟩; rw [← hW4] at hcv; obtain ⟨T, hT⟩ : ∃ T, s.data.toList.take K = T := ⟨_, rfl⟩; have hTl : T.length = K := by
       rw [← hT, List.length_take]; have h2 : s.data.toList.length = s.size := by simp
       omega
      have hTd : ∀ j (hj : j < T.length), 48 ≤ (T[j]'hj).toNat ∧ (T[j]'hj).toNat ≤ 57 := fun j hj => by
       have hjs : j < s.size := by omega
       have h := dig_at HDig.out j hjs; have e : T[j]'hj = s[j]'hjs := by
        simp only [← hT, List.getElem_take]; rfl
       rw [e]; exact h
      have hBR : BR W4 wr.heap.size T := by
       refine ⟨bytesRow (s.extract 0 K) cap, (bytesRow (s.extract 0 K) cap).size, (bytesRow (s.extract 0 K) cap).size + 1, by rw [hW4]; exact heap_alloc_new (wr.drewN n).drew _, ?_, fun j hj => ?_⟩
       · have h3 : (s.extract 0 K).data.size = K := hts; unfold bytesRow; rw [Array.size_append, Array.size_map, hTl, h3]; omega
       have hj2 : j < (s.extract 0 K).data.size := by have h3 : (s.extract 0 K).data.size = K := hts; omega
       rw [bytesRow_at _ _ j hj2]; have e : (s.extract 0 K).data[j] = T[j]'hj := by
        have h := ext_take s K; rw [hT] at h; have h4 : (s.extract 0 K).data[j] = (s.extract 0 K).data.toList[j]'(by simpa using hj2) := by simp
        rw [h4]; simp only [h]
       rw [e]
      have HBR := Lib.hid hBR; have HW4b : Hid (Below wr.heap.size wr W4) := Lib.hid (by rw [hW4]; exact (below_drew (pw_below_drewN (Below.refl _ _) n)).alloc (Nat.le_refl _) _); have HT := Lib.hid hT; have HTl := Lib.hid hTl; have HTd := Lib.hid hTd; clear hBR hW4 hT hTl hTd hcap hts; go_wp2_with fail; obtain ⟨w0, hw0⟩ : ∃ w0, w0 = wr := ⟨_, rfl⟩; subst hw0; go_loopg [14] K (fun d s14 wx => ∃ x : Int, s14 = .int .i64 x ∧ x = (d : Int) - 1 ∧ Aside0 (BR wx w0.heap.size (T.take d ++ List.replicate (K - d) 48)) ∧ Aside0 (∀ i, d ≤ i → i < K → T.getD i 0 = 57) ∧ Aside0 (Below w0.heap.size w0 wx) ∧ d ≤ K)
      case atStart => exact ⟨_, rfl, rfl, ⟨by rw [← HTl.out, List.take_length, Nat.sub_self, List.replicate_zero, List.append_nil]; exact HBR.out⟩, ⟨fun i h1 h2 => absurd h2 (by omega)⟩, ⟨HW4b.out⟩, Nat.le_refl _⟩
      case round =>
       obtain ⟨x, rfl, hx, J1, J2, J3, hd⟩ := hrel; by_cases hg0 : gk = 0
       ·
        subst hg0; have f0 : decide (0 ≤ x) = false := decide_eq_false (by omega); have hz := J1.out.back cap; have hzl : (T.take 0 ++ List.replicate (K - 0) (48 : UInt8)).length = K := by simp
        rw [hzl] at hz; have hb0 : bump T = (T.take 0 ++ List.replicate (K - 0) (48 : UInt8), true) := by
         unfold bump; rw [if_pos (nines_all fun i hi => J2.out i (Nat.zero_le _) (by rw [← HTl.out]; exact hi)), HTl.out]; simp
        have HB0 := Lib.hid hb0; obtain ⟨Z, hZ⟩ : ∃ Z, (T.take 0 ++ List.replicate (K - 0) (48 : UInt8)) = Z := ⟨_, rfl⟩; rw [hZ] at hz HB0; clear hx hb0 hZ hzl; go_wp2_with fail; go_ret3
        unfold RoundPost; rw [HR.out, HRR.out, HT.out, HB0.out]; exact ⟨rfl, J3.out⟩
       obtain ⟨j, rfl⟩ : ∃ j, gk = j + 1 := ⟨gk - 1, by omega⟩; obtain rfl : x = (j : Int) := by omega
       have f1 : decide (0 ≤ (j : Int)) = true := decide_eq_true (by omega); have hj0 : 0 ≤ (j : Int) := by omega
       have hjk : (j : Int) < (K : Int) := by omega
       have hjT : j < T.length := by rw [HTl.out]; omega
       obtain ⟨L, hL⟩ : ∃ L, T.take (j + 1) ++ List.replicate (K - (j + 1)) (48 : UInt8) = L := ⟨_, rfl⟩; have hLl : L.length = K := by rw [← hL, List.length_append, List.length_take_of_le (by omega), List.length_replicate]; omega
       have hjL : j < L.length := by rw [hLl]; omega
       have hLj : L[j]'hjL = T[j]'hjT := by
        subst hL; rw [List.getElem_append_left (by rw [List.length_take_of_le (by omega)]; omega), List.getElem_take]
       have hTg : T.getD j 0 = T[j]'hjT := by rw [List.getD_eq_getElem?_getD, List.getElem?_eq_getElem hjT]; rfl
       rw [hL] at J1; have hcl := J1.out.cell hjL; rw [hLj] at hcl; have hfz := J1.out.frozen hjL; obtain ⟨hb48, hb57⟩ := HTd.out j hjT; obtain ⟨y, hy⟩ : ∃ y, T[j]'hjT = y := ⟨_, rfl⟩; rw [hy] at hcl hb48 hb57 hTg; by_cases h57 : y = 57
       ·
        subst h57; have hput := Lib.hid (J1.out.put hjL 48); have hLs : L.set j 48 = T.take j ++ List.replicate (K - j) (48 : UInt8) := by
         rw [← hL, show K - j = (K - (j + 1)) + 1 by omega, List.replicate_succ, List.set_append_left _ _ (by rw [List.length_take_of_le (by omega)]; omega)]; rw [List.take_succ_eq_append_getElem hjT, List.set_append_right _ _ (by rw [List.length_take_of_le (by omega)]; exact Nat.le_refl _)]; rw [List.length_take_of_le (by omega), Nat.sub_self]; simp
        have HLs := Lib.hid hLs; have HLl := Lib.hid hLl; have HTg := Lib.hid hTg; have J3s := Lib.hid (J3.out.setCell (p := ⟨w0.heap.size, j, none⟩) (Nat.le_refl _) (.int .u8 48)); clear hx hL hLl hLj hTg hLs hy hb48 hb57; go_wp2_with fail; go_roundg j
        case measure => omega
        case rel =>
         refine ⟨_, rfl, (by omega), ⟨by rw [← HLs.out]; exact hput.out⟩, ⟨fun i h1 h2 => ?_⟩, ⟨J3s.out⟩, by omega⟩; by_cases e : i = j
         · subst e; exact HTg.out
         exact J2.out i (by omega) h2
       have hne : (((y.toNat : Int) == 57)) = false := beq_eq_false_iff_ne.mpr fun h => h57 (by
        apply UInt8.toNat_inj.1; have : y.toNat = 57 := by omega
        exact this)
       have hyt : y.toNat ≠ 57 := fun h => h57 (UInt8.toNat_inj.1 h)
       have hput := Lib.hid (J1.out.put hjL (y + 1)); have hy1 : ((y + 1).toNat : Int) = (y.toNat : Int) + 1 := by
        rw [UInt8.toNat_add]; have : (y.toNat + (1 : UInt8).toNat) % 2 ^ 8 = y.toNat + 1 := by
         show (y.toNat + 1) % 256 = _; omega
        rw [this]; omega
       rw [hy1] at hput; have hlen2 : (L.set j (y + 1)).length = K := by rw [List.length_set, hLl]
       have hz := hput.out.back cap; rw [hlen2] at hz; have hb0 : bump T = (L.set j (y + 1), false) := by
        have hn : nines T = K - (j + 1) := by
         have hTK := HTl.out; refine nines_eq (by omega) (fun i h1 h2 => J2.out i (by omega) (by omega)) ?_; rw [show T.length - (K - (j + 1)) - 1 = j by rw [HTl.out]; omega, hTg]; exact h57
        unfold bump; rw [hn, if_neg (by rw [HTl.out]; omega), HTl.out, show K - (K - (j + 1)) - 1 = j by omega, hTg]; refine congrArg (fun q => (q, false)) ?_; rw [← hL, List.set_append_left _ _ (by rw [List.length_take_of_le (by omega)]; omega), List.take_succ_eq_append_getElem hjT, List.set_append_right _ _ (by rw [List.length_take_of_le (by omega)]; exact Nat.le_refl _)]; rw [List.length_take_of_le (by omega), Nat.sub_self]; simp
       have HB0 := Lib.hid hb0; have hyi48 : 48 ≤ (y.toNat : Int) := by omega
       have hyi57 : (y.toNat : Int) ≤ 57 := by omega
       have J3s := Lib.hid (J3.out.setCell (p := ⟨w0.heap.size, j, none⟩) (Nat.le_refl _) (.int .u8 ((y.toNat : Int) + 1))); obtain ⟨Z, hZ⟩ : ∃ Z, L.set j (y + 1) = Z := ⟨_, rfl⟩; rw [hZ] at hz HB0; clear hx hL hLl hLj hTg hy hb48 hb57 h57 hyt hy1 hb0 hlen2 hput; go_wp2_with fail; go_ret3
       unfold RoundPost; rw [HR.out, HRR.out, HT.out, HB0.out]; exact ⟨rfl, J3s.out⟩
end Go.Proofs.YtgbjojokjekmhaaGreatDoor
namespace Go.Proofs.YtgbjojokjekmhaaGreatDoor.Num
set_option linter.unusedVariables false
set_option linter.unusedSimpArgs false
open Go.RowKit Go.Proofs.YtgbjojokjekmhaaGreatDoorW.PrintWords

/-- A row as a text. -/
abbrev S (l : List UInt8) : ByteArray := ⟨l.toArray⟩
theorem s_of (t : ByteArray) : ∃ l, t = S l := ⟨t.data.toList, by cases t; rfl⟩
theorem s_size (l : List UInt8) : (S l).size = l.length := by show l.toArray.size = _; simp
theorem s_data (l : List UInt8) : (S l).data.toList = l := rfl
theorem s_list (l : List UInt8) : (S l).toList = l := by rw [ByteArray.toList_eq]
theorem s_app (a b : List UInt8) : S a ++ S b = S (a ++ b) := by
 apply ByteArray.ext; rw [ByteArray.data_append]; simp
theorem s_ext {t : ByteArray} {l : List UInt8} (h : t.data.toList = l) : t = S l := by subst h; cases t; rfl
theorem s_take (l : List UInt8) (k : Nat) : (S l).extract 0 k = S (l.take k) := s_ext (by rw [ext_take])
theorem s_drop (l : List UInt8) (k : Nat) : (S l).extract k (S l).size = S (l.drop k) := s_ext (by rw [ext_drop])
theorem s_drop2 (l : List UInt8) (k : Nat) : (S l).extract k l.length = S (l.drop k) := by have h := s_drop l k; rw [s_size] at h; exact h
theorem rep_one (b : UInt8) (n : Nat) : Lib.repeatL [b] n = List.replicate n b := by
 have h := Lib.repeatL_replicate b 1 n; simpa using h
/-- A row of digits. -/
def Dg (l : List UInt8) : Prop := ∀ b ∈ l, 48 ≤ b.toNat ∧ b.toNat ≤ 57
theorem dg_nil : Dg [] := fun _ h => by cases h
theorem dg_append {a b : List UInt8} : Dg (a ++ b) ↔ Dg a ∧ Dg b := by
 unfold Dg; constructor
 · intro h; exact ⟨fun x hx => h x (List.mem_append_left _ hx), fun x hx => h x (List.mem_append_right _ hx)⟩
 rintro ⟨h1, h2⟩ x hx; rcases List.mem_append.1 hx with hx | hx
 · exact h1 x hx
 exact h2 x hx
theorem dg_cons {x : UInt8} {b : List UInt8} : Dg (x :: b) ↔ (48 ≤ x.toNat ∧ x.toNat ≤ 57) ∧ Dg b := by
 unfold Dg; constructor
 · intro h; exact ⟨h x (List.mem_cons_self ..), fun y hy => h y (List.mem_cons_of_mem _ hy)⟩
 rintro ⟨h1, h2⟩ y hy; rcases List.mem_cons.1 hy with rfl | hy
 · exact h1
 exact h2 y hy
theorem dg_rep (n : Nat) : Dg (List.replicate n 48) := fun x hx => by
 obtain ⟨_, rfl⟩ := List.mem_replicate.1 hx
 decide
theorem dg_take {l : List UInt8} (h : Dg l) (n : Nat) : Dg (l.take n) := fun x hx => h x (List.mem_of_mem_take hx)
theorem dg_drop {l : List UInt8} (h : Dg l) (n : Nat) : Dg (l.drop n) := fun x hx => h x (List.mem_of_mem_drop hx)
theorem dg_all {l : List UInt8} (h : Dg l) : digAll (S l) = true := by
 refine dig_yes fun i hi => ?_
 have e : (S l)[i]'hi = l[i]'(by rw [s_size] at hi; exact hi) := rfl; rw [e]; exact h _ (List.getElem_mem _)
theorem bump_dg {l : List UInt8} (h : Dg l) : Dg (bump l).1 := by
 unfold bump; split
 · exact dg_rep _
 rename_i hn; have hle := nines_le l; obtain ⟨j, hj⟩ : ∃ j, j = l.length - nines l - 1 := ⟨_, rfl⟩; have hjl : j < l.length := by omega
 rw [← hj]; refine dg_append.2 ⟨dg_append.2 ⟨dg_take h _, fun x hx => ?_⟩, dg_rep _⟩; rw [List.mem_singleton] at hx; subst hx; have hg : l.getD j 0 = l[j] := by rw [List.getD_eq_getElem?_getD, List.getElem?_eq_getElem hjl]; rfl
 have h1 := h _ (List.getElem_mem hjl); have h9 : l[j] ≠ 57 := by
  intro e; have key : ∀ (r : List UInt8) (m : Nat) (hm : m < r.length), (r.takeWhile (fun c => c == 57)).length = m → r[m] ≠ 57 := by
   intro r; induction r with
   | nil => intro m hm; exact absurd hm (Nat.not_lt_zero _)
   | cons x r ih =>
    intro m hm ht; by_cases hx : x = 57
    ·
     have hx2 : (x == 57) = true := by simpa using hx
     rw [List.takeWhile_cons_of_pos (by exact hx2), List.length_cons] at ht; obtain ⟨m', rfl⟩ : ∃ m', m = m' + 1 := ⟨m - 1, by omega⟩; rw [List.getElem_cons_succ]; exact ih m' (by simpa using hm) (by omega)
    have hx2 : (x == 57) = false := by simpa using hx
    rw [List.takeWhile_cons_of_neg (by rw [hx2]; decide)] at ht; have : m = 0 := by simpa using ht.symm
    subst this; exact hx
  have hnr : nines l < l.reverse.length := by rw [List.length_reverse]; omega
  have h2 := key l.reverse (nines l) hnr rfl; rw [List.getElem_reverse] at h2; have e2 : l.length - 1 - nines l = j := by omega
  simp only [e2] at h2; exact h2 e
 rw [hg]; have h8 : (l[j]).toNat ≠ 57 := fun e => h9 (UInt8.toNat_inj.1 e)
 rw [UInt8.toNat_add]; have : ((l[j]).toNat + (1 : UInt8).toNat) % 2 ^ 8 = (l[j]).toNat + 1 := by
  show ((l[j]).toNat + 1) % 256 = _; omega
 rw [this]; omega
theorem roundR_dg {l : List UInt8} (h : Dg l) (K : Nat) (m : Bool) : Dg (roundR (S l) K m).1 := by
 unfold roundR; split
 · exact dg_take h _
 exact bump_dg (dg_take h _)
theorem roundR_len {l : List UInt8} {K : Nat} (hK : K ≤ l.length) (m : Bool) : (roundR (S l) K m).1.length = K := by
 unfold roundR; split
 · exact List.length_take_of_le hK
 rw [bump_length]; exact List.length_take_of_le hK
theorem trimR_sub (l : List UInt8) (c : UInt8) : ∃ n, n ≤ l.length ∧ Lib.trimRightB l c = l.take n := by
 unfold Lib.trimRightB; obtain ⟨r, hr⟩ := List.dropWhile_suffix (l := l.reverse) (fun x => x == c); refine ⟨(l.reverse.dropWhile (fun x => x == c)).length, ?_, ?_⟩
 · have := congrArg List.length hr; rw [List.length_append, List.length_reverse] at this; omega
 have h2 : l = (l.reverse.dropWhile (fun x => x == c)).reverse ++ r.reverse := by
  have := congrArg List.reverse hr; rw [List.reverse_append, List.reverse_reverse] at this; exact this.symm
 have h3 : ((l.reverse.dropWhile (fun x => x == c)).reverse ++ r.reverse).take (l.reverse.dropWhile (fun x => x == c)).length = (l.reverse.dropWhile (fun x => x == c)).reverse := by
  rw [List.take_append_of_le_length (by rw [List.length_reverse]; exact Nat.le_refl _), List.take_of_length_le (by rw [List.length_reverse]; exact Nat.le_refl _)]
 rw [← h2] at h3; exact h3.symm
theorem trimR_dg {l : List UInt8} (h : Dg l) (c : UInt8) : Dg (Lib.trimRightB l c) ∧ (Lib.trimRightB l c).length ≤ l.length := by
 obtain ⟨n, hn, e⟩ := trimR_sub l c; rw [e]; exact ⟨dg_take h _, by rw [List.length_take]; omega⟩
theorem letter_dg (d : Nat) (h : d < 10) : 48 ≤ (letter false d).toNat ∧ (letter false d).toNat ≤ 57 := by
 have : ∀ x : Fin 10, 48 ≤ (letter false x.val).toNat ∧ (letter false x.val).toNat ≤ 57 := by decide
 exact this ⟨d, h⟩
theorem inBase_dg (v : Nat) : Dg (inBase false 10 v) := by
 unfold inBase; split
 · intro x hx; rw [List.mem_singleton.1 hx]; decide
 intro x hx; rw [List.mem_reverse] at hx; unfold word at hx; obtain ⟨d, hd, rfl⟩ := List.mem_map.1 hx; exact letter_dg d (dl_lt (by decide) v v (Nat.le_refl _) d hd)
theorem inBase_len {l : List Int} (hl : Lm l) (hz : sz l ≤ 4096) : (inBase false 10 (val l)).length ≤ 262144 := by
 unfold inBase; split
 · simp
 rw [List.length_reverse]; unfold word; rw [List.length_map]; obtain ⟨J, hJ⟩ : ∃ J : Nat, J = 4096 := ⟨_, rfl⟩; have hK : 262144 = 64 * J := by rw [hJ]
 rw [hK]; refine dl_length (by decide) (64 * J) (val l) ?_; have h1 : val l < B ^ sz l := sz_lt hl; have h2 : B ^ sz l ≤ B ^ J := Nat.pow_le_pow_right (by decide) (by rw [hJ]; exact hz); rw [pow_bits J] at h2; exact Nat.lt_of_lt_of_le h1 (Nat.le_trans h2 (Nat.pow_le_pow_left (by decide) (64 * J)))
end Go.Proofs.YtgbjojokjekmhaaGreatDoor.Num
