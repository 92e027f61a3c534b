/- abacuslaw15.lowered walked: capitals as small letters; conditions: the text is shorter than 2^47. -/
import Derived.Test.YtgbjojokjekmhaaGreatDoorTxtP
namespace Go.Proofs.YtgbjojokjekmhaaGreatDoor
open Go.RowKit Go.Proofs.YtgbjojokjekmhaaGreatDoorW.PrintWords Go.Proofs.YtgbjojokjekmhaaGreatDoorW.PrintLast Num
set_option linter.unusedVariables false
set_option linter.unusedSimpArgs false
def lowB (b : UInt8) : UInt8 := if 65 ≤ b.toNat ∧ b.toNat ≤ 90 then b + 32 else b
def lowL (l : List UInt8) : List UInt8 := l.map lowB
theorem lowB_up {b : UInt8} (h : 65 ≤ b.toNat ∧ b.toNat ≤ 90) : lowB b = b + 32 ∧ (((b + 32 : UInt8).toNat : Nat) : Int) = (b.toNat : Int) + 32 := by
 refine ⟨by unfold lowB; rw [if_pos h], ?_⟩
 rw [UInt8.toNat_add]
 have : (b.toNat + (32 : UInt8).toNat) % 2 ^ 8 = b.toNat + 32 := by
  show (b.toNat + 32) % 256 = _
  omega
 rw [this]
 omega
set_option maxRecDepth 100000 in
set_option maxHeartbeats 8000000 in
theorem lowered_walk (s : ByteArray) (w : World) (hs : s.size ≤ 140737488355328) :
  Calls Tryz.prog 18 #[.string s] w fun e w' => e = .returned (.string (S (lowL s.data.toList))) ∧ Below w.heap.size w w' := by
 obtain ⟨l, rfl⟩ := s_of s
 rw [s_size] at hs
 rw [s_data]
 obtain ⟨cap, hcap⟩ : ∃ cap, cap = grownCap w l.length 0 5 := ⟨_, rfl⟩
 have hcv : (convert 9 30 (.string (S l))).run Tryz.prog w = .ok (.slice (some ⟨w.heap.size, 0, none⟩) l.length cap) (w.drew.alloc (.cells (bytesRow (S l) cap) 5 ((bytesRow (S l) cap).size, (bytesRow (S l) cap).size + 1))) := by
  have h := run_bytes_of_string (P := Tryz.prog) w 9 30 5 (S l) Tryz.underlying9 Tryz.underlying30 Tryz.underlying5
  rw [s_size, ← hcap] at h
  exact h
 obtain ⟨W4, hW4⟩ : ∃ W4, W4 = w.drew.alloc (.cells (bytesRow (S l) cap) 5 ((bytesRow (S l) cap).size, (bytesRow (S l) cap).size + 1)) := ⟨_, rfl⟩
 rw [← hW4] at hcv
 have hBR : BR W4 w.heap.size l := by
  refine ⟨bytesRow (S l) cap, (bytesRow (S l) cap).size, (bytesRow (S l) cap).size + 1, by rw [hW4]; exact heap_alloc_new w.drew _, ?_, fun j hj => ?_⟩
  ·
   unfold bytesRow
   rw [Array.size_append, Array.size_map]
   have : (S l).data.size = l.length := by simp
   omega
  ·
   have hj2 : j < (S l).data.size := by simpa using hj
   rw [bytesRow_at _ _ j hj2]
   rfl
 have HBR := Lib.hid hBR
 have HB4 := Lib.hid (show Below w.heap.size w W4 by rw [hW4]; exact (below_drew (Below.refl _ _)).alloc (Nat.le_refl _) _)
 have hli : (l.length : Int) ≤ 140737488355328 := by omega
 clear hBR hW4 hcap
 go_enter Tryz.func18, Tryz.ntmps18
 go_wp2_with fail
 obtain ⟨w0, hw0⟩ : ∃ w0, w0 = w := ⟨_, rfl⟩
 subst hw0
 go_loopg [4] l.length (fun d s4 wx => ∃ i : Nat, s4 = .int .i64 (i : Int) ∧ Aside0 (BR wx w0.heap.size (lowL (l.take i) ++ l.drop i)) ∧ Aside0 (Below w0.heap.size w0 wx) ∧ Aside0 (d = l.length - i) ∧ i ≤ l.length)
 case atStart => exact ⟨0, rfl, ⟨by simpa [lowL] using HBR.out⟩, ⟨HB4.out⟩, ⟨rfl⟩, Nat.zero_le _⟩
 case round =>
  obtain ⟨i, rfl, J1, J2, J3, hi⟩ := hrel
  have hzl : (lowL (l.take i) ++ l.drop i).length = l.length := by
   unfold lowL
   rw [List.length_append, List.length_map, List.length_take, List.length_drop]
   omega
  by_cases hlt : i < l.length
  ·
   have e1 : decide ((i : Int) < (l.length : Int)) = true := decide_eq_true (by omega)
   have e1n : decide (i < l.length) = true := decide_eq_true hlt
   obtain ⟨Z, hZ⟩ : ∃ Z, lowL (l.take i) ++ l.drop i = Z := ⟨_, rfl⟩
   have hZl : Z.length = l.length := by rw [← hZ]; exact hzl
   have hiZ : i < Z.length := by omega
   have htl : (lowL (l.take i)).length = i := by unfold lowL; rw [List.length_map, List.length_take]; omega
   have hZi : Z[i]'hiZ = l[i] := by
    subst hZ
    rw [List.getElem_append_right (by omega)]
    simp [htl]
   have hset : ∀ x, Z.set i x = lowL (l.take i) ++ x :: l.drop (i + 1) := by
    intro x
    rw [← hZ, List.set_append_right _ _ (by omega), htl, Nat.sub_self, List.drop_eq_getElem_cons hlt, List.set_cons_zero]
   have hnext : lowL (l.take (i + 1)) ++ l.drop (i + 1) = lowL (l.take i) ++ lowB l[i] :: l.drop (i + 1) := by
    unfold lowL
    rw [List.take_succ_eq_append_getElem hlt, List.map_append, List.append_assoc]
    rfl
   rw [hZ] at J1
   have hcl := J1.out.cell hiZ
   rw [hZi] at hcl
   have hfz := J1.out.frozen hiZ
   obtain ⟨y, hy⟩ : ∃ y, l[i] = y := ⟨_, rfl⟩
   rw [hy] at hcl hnext
   have hi0 : 0 ≤ (i : Int) := by omega
   have hil : (i : Int) < (l.length : Int) := by omega
   have hyn : y.toNat < 256 := UInt8.toNat_lt y
   by_cases h65 : 65 ≤ y.toNat
   ·
    have f1 : decide (65 ≤ (y.toNat : Int)) = true := decide_eq_true (by omega)
    have f1n : decide (65 ≤ y.toNat) = true := decide_eq_true h65
    by_cases h90 : y.toNat ≤ 90
    ·
     have f2 : decide ((y.toNat : Int) ≤ 90) = true := decide_eq_true (by omega)
     have f2n : decide (y.toNat ≤ 90) = true := decide_eq_true h90
     obtain ⟨q1, q2⟩ := lowB_up ⟨h65, h90⟩
     have hput := Lib.hid (J1.out.put hiZ (y + 32))
     rw [q2, hset, ← q1, ← hnext] at hput
     have hsub : IntKind.u8.wrap ((y.toNat : Int) - 65) = (y.toNat : Int) - 65 := by rw [IntKind.wrap_u8]; omega
     have hadd : IntKind.u8.wrap ((y.toNat : Int) - 65 + 97) = (y.toNat : Int) + 32 := by rw [IntKind.wrap_u8]; omega
     have J3s := Lib.hid (J2.out.setCell (p := ⟨w0.heap.size, i, none⟩) (Nat.le_refl _) (.int .u8 ((y.toNat : Int) + 32)))
     clear q1 q2 h65 h90 hnext hZ hzl htl hset hZi hy
     go_wp2_with fail
     go_roundg (l.length - (i + 1))
     case measure => rw [J3.out]; omega
     case rel => exact ⟨i + 1, (by go_num), ⟨hput.out⟩, ⟨J3s.out⟩, ⟨rfl⟩, by omega⟩
    ·
     have f2 : decide ((y.toNat : Int) ≤ 90) = false := decide_eq_false (by omega)
     have f2n : decide (y.toNat ≤ 90) = false := decide_eq_false h90
     have q1 : lowB y = y := by unfold lowB; rw [if_neg (fun h => h90 h.2)]
     have hsame : Z = lowL (l.take (i + 1)) ++ l.drop (i + 1) := by
      rw [hnext, q1, ← hset, ← hy, ← hZi]
      exact (List.set_getElem_self hiZ).symm
     have HS := Lib.hid hsame
     clear q1 h65 h90 hnext hZ hzl htl hset hZi hy hsame
     go_wp2_with fail
     go_roundg (l.length - (i + 1))
     case measure => rw [J3.out]; omega
     case rel => exact ⟨i + 1, (by go_num), ⟨by rw [← HS.out]; exact J1.out⟩, ⟨J2.out⟩, ⟨rfl⟩, by omega⟩
   ·
    have f1 : decide (65 ≤ (y.toNat : Int)) = false := decide_eq_false (by omega)
    have f1n : decide (65 ≤ y.toNat) = false := decide_eq_false h65
    have q1 : lowB y = y := by unfold lowB; rw [if_neg (fun h => h65 h.1)]
    have hsame : Z = lowL (l.take (i + 1)) ++ l.drop (i + 1) := by
     rw [hnext, q1, ← hset, ← hy, ← hZi]
     exact (List.set_getElem_self hiZ).symm
    have HS := Lib.hid hsame
    clear q1 h65 hnext hZ hzl htl hset hZi hy hsame
    go_wp2_with fail
    go_roundg (l.length - (i + 1))
    case measure => rw [J3.out]; omega
    case rel => exact ⟨i + 1, (by go_num), ⟨by rw [← HS.out]; exact J1.out⟩, ⟨J2.out⟩, ⟨rfl⟩, by omega⟩
  ·
   obtain rfl : i = l.length := by omega
   have e1 : decide ((l.length : Int) < (l.length : Int)) = false := decide_eq_false (by omega)
   have hz := J1.out.back cap
   rw [hzl, List.take_length, List.drop_length, List.append_nil] at hz
   have hzc := Lib.hid hzl
   clear hlt hzl
   go_wp2_with fail
   go_ret
   exact ⟨rfl, J2.out⟩
end Go.Proofs.YtgbjojokjekmhaaGreatDoor
