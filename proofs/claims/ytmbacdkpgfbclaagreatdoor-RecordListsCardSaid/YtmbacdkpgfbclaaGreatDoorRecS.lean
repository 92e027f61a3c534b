/- record: put, Set of a field, walked; conditions: each field has a text, together they are short. -/
import Derived.Test.YtmbacdkpgfbclaaGreatDoorRecW
import Derived.Test.YtmbacdkpgfbclaaGreatDoorLeast
namespace Go.Proofs.YtmbacdkpgfbclaaGreatDoor
open Go.RowKit Go.Proofs.YtmbacdkpgfbclaaGreatDoorW.PrintWords Go.Proofs.YtmbacdkpgfbclaaGreatDoorW.PrintLast Heap
set_option linter.unusedVariables false
set_option linter.unusedSimpArgs false
def zV : Val := (0, 0, ⟨#[]⟩)
theorem madeV (n : Nat) : (madeCells (vAgg 0 0 ⟨#[]⟩).cells (n * 3)).toList = flatV (List.replicate n zV) := by
 have hc : (vAgg 0 0 ⟨#[]⟩).cells = #[.int .i64 0, .int .u64 0, .string ⟨#[]⟩] := rfl; unfold madeCells; rw [hc, Array.toList_map, Array.toList_range]; induction n with
 | zero => rfl
 | succ n ih =>
  rw [show (n + 1) * 3 = n * 3 + 1 + 1 + 1 by omega, List.range_succ, List.range_succ, List.range_succ, List.map_append, List.map_append, List.map_append, ih, List.replicate_succ', flatV_append, List.append_assoc, List.append_assoc]; congr 1
  have e0 : n * 3 % 3 = 0 := by omega
  have e1 : (n * 3 + 1) % 3 = 1 := by omega
  have e2 : (n * 3 + 1 + 1) % 3 = 2 := by omega
  simp [e0, e1, e2]; rfl
/-- The fields as another list of n. -/
def sized (L : List Val) (n : Nat) : List Val := L.take n ++ List.replicate (n - L.length) zV
theorem sized_len (L : List Val) (n : Nat) : (sized L n).length = n := by unfold sized; rw [List.length_append, List.length_take, List.length_replicate]; omega
theorem flatV_take (L : List Val) (m : Nat) : flatV (L.take m) = (flatV L).take (m * 3) := by
 induction L generalizing m with
 | nil => simp [flatV]
 | cons x L ih =>
  cases m with
  | zero => simp [flatV]
  | succ m =>
   rw [List.take_succ_cons]; show encV x ++ flatV (L.take m) = (encV x ++ flatV L).take ((m + 1) * 3); have h2 : (encV x).length = 3 := rfl; rw [ih, List.take_append, h2, show (m + 1) * 3 - 3 = m * 3 by omega, List.take_of_length_le (show (encV x).length ≤ (m + 1) * 3 by rw [h2]; omega)]
theorem flatV_drop (L : List Val) (m : Nat) : flatV (L.drop m) = (flatV L).drop (m * 3) := by
 have h : flatV L = flatV (L.take m) ++ flatV (L.drop m) := by rw [← flatV_append, List.take_append_drop]
 by_cases hm : m ≤ L.length
 ·
  conv => rhs; rw [h]
  rw [List.drop_left' (by rw [flatV_len, List.length_take]; omega)]
 rw [List.drop_of_length_le (by omega), List.drop_of_length_le (by rw [flatV_len]; omega)]; rfl
theorem sized_cells (L : List Val) (n : Nat) (cur : Array Value) (hc : cur.toList = flatV (List.replicate n zV)) :
  (cur.toList.take 0 ++ flatV (L.take n) ++ cur.toList.drop (0 + (flatV (L.take n)).length)) = flatV (sized L n) := by
 rw [List.take_zero, List.nil_append, hc, Nat.zero_add, flatV_len, ← flatV_drop, List.drop_replicate, ← flatV_append, List.length_take]; unfold sized; congr 3
 omega
set_option maxRecDepth 100000 in
set_option maxHeartbeats 2000000 in
theorem resized_walk {base r : Nat} {t : ByteArray} {v : Value} {L : List Val} {fs ofs : ByteArray} {w : World} (hR : RecAt base r t v L fs ofs w) (n : Nat) (hn : n ≤ 1099511627776) (hL : L.length ≤ 1099511627776) :
  Calls Tryz.prog 75 #[.pointer (some ⟨r, 0, none⟩), .int .i64 (n : Int)] w fun e w' => ∃ v1, e = .returned v1 ∧ w'.ownsRow w.heap.size 26 3 v1 n (flatV (sized L n)) ∧ Below w.heap.size w w' := by
 obtain ⟨i0, hi, hzz⟩ := Option.map_eq_some_iff.1 infoV; simp only [Prod.mk.injEq] at hzz; obtain ⟨hz, hsz, hby⟩ := hzz; have hmk : ∀ u : World, (Instr.makeSlice 22 (.int .i64 (n : Int)) (.int .i64 (n : Int))).run Tryz.prog u = .ok (.slice (some ⟨u.heap.size, 0, none⟩) n n) (u.alloc (.cells (madeCells (vAgg 0 0 ⟨#[]⟩).cells (n * 3)) 26)) := fun u => by
  have h := run_make (P := Tryz.prog) u 22 26 i0 _ Tryz.underlying22 hi hz .i64 .i64 (n : Int) (n : Int) (by omega) (by omega) (by rw [hby]; omega) (by omega); rw [hsz] at h; simpa using h
 obtain ⟨cur, hcur⟩ : ∃ cur, cur = madeCells (vAgg 0 0 ⟨#[]⟩).cells (n * 3) := ⟨_, rfl⟩; have hcl : cur.toList = flatV (List.replicate n zV) := by rw [hcur]; exact madeV n
 have hcs : cur.size = n * 3 := by rw [hcur]; exact size_madeCells _ _
 rw [← hcur] at hmk; obtain ⟨W1, hW1⟩ : ∃ W1, W1 = w.alloc (.cells cur 26) := ⟨_, rfl⟩; have hb1 : W1.heap[w.heap.size]? = some (.cells cur 26 (0, 0)) := by rw [hW1]; exact blk_new _ _
 have hB1 : Below w.heap.size w W1 := by rw [hW1]; exact below_alloc (Below.refl _ _) _
 obtain ⟨A1, c1, hv, hvr⟩ := vr_own' hR.row; subst hv; have hcp : (Builtin.copy_ #[22, 22] 3 #[.slice (some ⟨w.heap.size, 0, none⟩) n n, .slice A1 L.length c1]).run Tryz.prog W1 = .ok (goInt (Nat.min L.length n : Nat)) (W1.setRow w.heap.size (flatV (sized L n)).toArray) := by
  have hinfo : (Tryz.prog.info? 26).map (·.size) = some 3 := by rw [hi]; exact congrArg some hsz
  have hsc := sized_cells L n cur hcl; by_cases hm : Nat.min L.length n = 0
  ·
   have h := run_copy_nothing (P := Tryz.prog) W1 22 22 3 26 3 (some ⟨w.heap.size, 0, none⟩) A1 n n L.length c1 Tryz.underlying22 hinfo hm; have ht : L.take n = [] := by
    apply List.eq_nil_of_length_eq_zero; rw [List.length_take, Nat.min_comm]; exact hm
   rw [ht] at hsc; have hsc2 : (flatV (sized L n)).toArray = cur := by rw [← hsc]; simp [flatV]
   rw [hsc2, setRow_self W1 w.heap.size cur 26 (0, 0) hb1, h, hm]; rfl
  have hL0 : 0 < L.length := by
   rcases Nat.eq_zero_or_pos L.length with h | h
   · rw [h] at hm; exact absurd (Nat.zero_min n) hm
   exact h
  obtain ⟨ad, hA, -⟩ := hvr 0 hL0; subst hA; have hmn : Nat.min L.length n ≤ n := Nat.min_le_right _ _; have hlt : (L.take n).length = Nat.min L.length n := by rw [List.length_take, Nat.min_comm]
  have hread : ∀ j u, (flatV (L.take n))[j]? = some u → W1.cell? (ad.add j) = some u := fun j u hj => by
   have h := vr_news hvr j u (by
    rw [flatV_take, List.getElem?_take] at hj; split at hj
    · exact hj
    cases hj)
   exact pw_cell_below hB1 h
  have h := run_copy_rows (P := Tryz.prog) W1 22 22 3 26 w.heap.size 0 n n ad L.length c1 3 (Nat.min L.length n) cur 26 (flatV (L.take n)) Tryz.underlying22 hinfo hb1 rfl (by rw [flatV_len, hlt]) hread (by rw [flatV_len, hcs, hlt]; omega) (flatV_one _); rw [hsc] at h; exact h
 obtain ⟨W2, hW2⟩ : ∃ W2, W2 = W1.setRow w.heap.size (flatV (sized L n)).toArray := ⟨_, rfl⟩; rw [← hW2] at hcp; have hB2 : Below w.heap.size w W2 := by rw [hW2]; exact below_setRow hB1 (Nat.le_refl _) _
 have hb2 : W2.heap[w.heap.size]? = some (.cells (flatV (sized L n)).toArray 26 (0, 0)) := by rw [hW2]; exact setRow_heap W1 w.heap.size cur _ 26 _ hb1
 have hfl : (flatV (sized L n)).length = n * 3 := by rw [flatV_len, sized_len]
 have hO : W2.ownsRow w.heap.size 26 3 (.slice (some ⟨w.heap.size, 0, none⟩) n n) n (flatV (sized L n)) :=
  ⟨hfl, .inr ⟨w.heap.size, n, (flatV (sized L n)).toArray, rfl, Nat.le_refl _, hb2, Nat.le_refl _, by unfold maxLen; omega, (show (flatV (sized L n)).toArray.size = n * 3 by simp [hfl]), List.take_of_length_le (show (flatV (sized L n)).toArray.toList.length ≤ n * 3 by simp [hfl])⟩⟩
 have c1' := fun o => cellA hR.cell1 o
 have HB := Lib.hid hB2; have HR := Lib.hid hO; rw [hW1] at hcp; clear hB2 hO hW1 hW2 hb2 hb1 hB1 hcs hcur hR hvr hcl hfl; go_enter Tryz.func75, Tryz.ntmps75; go_wp2_with fail; go_ret; exact ⟨_, rfl, HR.out, HB.out⟩
end Go.Proofs.YtmbacdkpgfbclaaGreatDoor
namespace Go.Proofs.YtmbacdkpgfbclaaGreatDoor
open Go.RowKit Go.Proofs.YtmbacdkpgfbclaaGreatDoorW.PrintWords Go.Proofs.YtmbacdkpgfbclaaGreatDoorW.PrintLast Heap
set_option linter.unusedVariables false
set_option linter.unusedSimpArgs false
theorem infoS : (Tryz.prog.info? 9).map (fun i => (i.zero, i.size, i.bytes)) = some (some (.string ⟨#[]⟩), 1, 16) := by kernel_rfl
/-- What value.ToStr answers of these values. -/
def StrC (L : List Val) (T : List ByteArray) (cf : ByteArray) : Prop := T.length = L.length ∧ ∀ i, i < L.length → ∀ u : World, GW u → Calls Tryz.prog 67 #[vAgg (g L i).1 (g L i).2.1 (g L i).2.2, .string cf] u fun e u' => e = .returned (.tuple #[.string (g T i), .int .i64 0]) ∧ Below u.heap.size u u'
def lens (T : List ByteArray) : Nat := (T.map ByteArray.size).sum
theorem lens_take (T : List ByteArray) (i : Nat) (hi : i < T.length) : lens (T.take (i + 1)) = lens (T.take i) + (g T i).size := by
 unfold lens; rw [List.take_add_one, g_get' T i hi]; simp
theorem lens_le (T : List ByteArray) (i : Nat) : lens (T.take i) ≤ lens T := by
 have h : lens T = lens (T.take i) + lens (T.drop i) := by
  unfold lens; rw [← List.sum_append, ← List.map_append, List.take_append_drop]
 omega
def joinB (T : List ByteArray) (sep : ByteArray) : ByteArray := ⟨(Lib.join (T.map (·.data.toList)) sep.data.toList).toArray⟩
theorem texts_snoc (T : List ByteArray) (i : Nat) (hi : i < T.length) : (T.take (i + 1)).map Value.string = (T.take i).map Value.string ++ [.string (g T i)] := by
 rw [List.take_add_one, g_get' T i hi, List.map_append]; rfl
theorem join_len (T : List (List UInt8)) (sep : List UInt8) : (Lib.join T sep).length ≤ (T.map List.length).sum + (T.length - 1) * sep.length := by
 cases T with
 | nil => simp [Lib.join]
 | cons x r =>
  rw [Lib.join_cons, List.length_append]; have h : (Lib.joinTail sep r).length = (r.map List.length).sum + r.length * sep.length := by
   induction r with
   | nil => simp [Lib.joinTail]
   | cons y r ih =>
    have e : Lib.joinTail sep (y :: r) = (sep ++ y) ++ Lib.joinTail sep r := rfl; rw [e, List.length_append, List.length_append, ih, List.map_cons, List.sum_cons, List.length_cons, Nat.add_mul]; omega
  rw [h, List.map_cons, List.sum_cons, List.length_cons, Nat.add_sub_cancel]; omega
theorem joinB_len (T : List ByteArray) (sep : ByteArray) : (Lib.join (T.map (·.data.toList)) sep.data.toList).length ≤ lens T + (T.length - 1) * sep.size := by
 have h := join_len (T.map (·.data.toList)) sep.data.toList; rw [List.length_map, List.map_map] at h; exact h
set_option maxRecDepth 100000 in
set_option maxHeartbeats 2000000 in
theorem build_walk (A : Option Addr) (c : Nat) (L : List Val) (T : List ByteArray) (ofs cf : ByteArray) (w : World) (hv : VR w A L) (hT : StrC L T cf) (h1 : 1 ≤ L.length) (hl : L.length ≤ 1099511627776) (hsz : (L.length - 1) * ofs.size + lens T ≤ 16777216) (hofs : ofs.size ≤ 16777216) (HG : GW w) :
  Calls Tryz.prog 97 #[.slice A L.length c, .string ofs, .string cf] w fun e w' => e = .returned (.tuple #[.string (joinB T ofs), .int .i64 0]) ∧ Below w.heap.size w w' := by
 have HV := Lib.hid hv; have HT := Lib.hid hT; have HSZ := Lib.hid hsz; have hlb : (L.length : Int) ≤ 1099511627776 := by omega
 obtain ⟨i0, hi, hzz⟩ := Option.map_eq_some_iff.1 infoS; simp only [Prod.mk.injEq] at hzz; obtain ⟨hz0, hz1, hz2⟩ := hzz; obtain ⟨cs, hcs⟩ : ∃ cs, cs = madeCells (Value.string ⟨#[]⟩).cells (L.length * 1) := ⟨_, rfl⟩; have hmk : ∀ u : World, (Instr.makeSlice 57 (.int .i64 0) (.int .i64 (L.length : Int))).run Tryz.prog u = .ok (.slice (some ⟨u.heap.size, 0, none⟩) 0 L.length) (u.alloc (.cells cs 9)) := fun u => by
  have h := run_make (P := Tryz.prog) u 57 9 i0 _ Tryz.underlying57 hi hz0 .i64 .i64 0 (L.length : Int) (by omega) (by omega) (by rw [hz2]; omega) (by omega); rw [hz1] at h; rw [hcs]; simpa using h
 have hown0 : (w.alloc (.cells cs 9)).ownsRow w.heap.size 9 1 (.slice (some ⟨w.heap.size, 0, none⟩) 0 L.length) 0 [] :=
  ⟨by simp, .inr ⟨w.heap.size, L.length, cs, rfl, Nat.le_refl _, blk_new _ _, Nat.zero_le _, by unfold maxLen; omega, by rw [hcs]; exact size_madeCells _ _, by simp⟩⟩
 have HO := Lib.hid hown0; have HIN := Lib.hid hi; obtain ⟨M, hM⟩ : ∃ M, M = (L.length - 1) * ofs.size := ⟨_, rfl⟩; rw [← hM] at hsz; have hMi : ((L.length : Int) - 1) * (ofs.size : Int) = (M : Int) := by
  rw [hM, Int.natCast_mul]; congr 1
  omega
 have hw1 : IntKind.i64.wrap ((L.length : Int) - 1) = (L.length : Int) - 1 := by simp [IntKind.wrap, IntKind.bits, IntKind.signed]; omega
 have hmax : max (0 : Int) ((L.length : Int) - 1) = (L.length : Int) - 1 := by omega
 have hw2 : IntKind.i64.wrap (M : Int) = (M : Int) := by simp [IntKind.wrap, IntKind.bits, IntKind.signed]; omega
 have HM := Lib.hid hM; have HSM := Lib.hid hsz; clear hv hT hown0 hcs hi hM hsz hz0 hz1 hz2; go_enter Tryz.func97, Tryz.ntmps97; go_wp2_with fail; go_loopg [8, 9, 11, 12, 13, 26] L.length (fun d s8 s9 s11 s12 s13 s26 wx => ∃ (i : Nat), s26 = .int .i64 (i : Int) ∧ s9 = .int .i64 ((M + lens (T.take i) : Nat) : Int) ∧ Aside0 (wx.ownsRow w.heap.size 9 1 s8 i ((T.take i).map Value.string)) ∧ Aside0 (∃ g1 c1, s8 = .slice (some ⟨g1, 0, none⟩) i c1) ∧ Aside0 (Below w.heap.size w wx) ∧ Aside0 (d = L.length - i) ∧ i ≤ L.length)
 case atStart => exact ⟨0, rfl, (by simp [lens]), ⟨HO.out⟩, ⟨⟨_, _, rfl⟩⟩, ⟨below_alloc (Below.refl _ _) _⟩, ⟨rfl⟩, Nat.zero_le _⟩
 case round =>
  clear HO; obtain ⟨i, rfl, rfl, R1, R1b, R2, R3, hi⟩ := hrel; by_cases hlt : i < L.length
  ·
   have hd : decide ((i : Int) < (L.length : Int)) = true := decide_eq_true (by omega); obtain ⟨ad, hA, x0, x1, x2⟩ := (HV.out.below R2.out) i hlt; subst hA; have hiT : i < T.length := by rw [HT.out.1]; exact hlt
   obtain ⟨X, hX⟩ : ∃ X, g L i = X := ⟨_, rfl⟩; obtain ⟨xt, hxt⟩ : ∃ xt, g T i = xt := ⟨_, rfl⟩; have hTn := fun u hu => HT.out.2 i hlt u hu
   have hsn := texts_snoc T i hiT; have hln := lens_take T i hiT; have hle := lens_le T (i + 1); rw [hX] at x0 x1 x2 hTn; rw [hxt] at hTn hsn hln; obtain ⟨xa, xb, xc⟩ := X; obtain ⟨W6, hW6⟩ : ∃ W6, W6 = wr.alloc (.cells #[.int .i64 xa, .int .u64 xb, .string xc] 26) := ⟨_, rfl⟩; have hb6 : Below wr.heap.size wr W6 := by rw [hW6]; exact below_alloc (Below.refl _ _) _
   have HP := Lib.hid (hTn W6 (HG.below (R2.out.trans (hb6.mono R2.out.size)))); have B6 := Lib.hid (R2.out.trans (hb6.mono R2.out.size)); have O6 := Lib.hid (pw_own_below R1.out hb6); have HSn := Lib.hid hsn; have HLn := Lib.hid hln; have hbig : M + lens (T.take i) + xt.size ≤ 16777216 := by have := HSM.out; omega
   obtain ⟨K1, hK1⟩ : ∃ K1, K1 = M + lens (T.take i) := ⟨_, rfl⟩; rw [← hK1] at hbig; rw [← hK1]; have hw3 : IntKind.i64.wrap ((K1 : Int) + (xt.size : Int)) = ((K1 + xt.size : Nat) : Int) := by simp [IntKind.wrap, IntKind.bits, IntKind.signed]; omega
   have HK1 := Lib.hid hK1; have HW6 := Lib.hid hW6; obtain ⟨g3, c3, rfl⟩ := R1b.out; clear hX hxt hTn hsn hln hle hb6 hW6 hK1 R1 R1b hiT; go_wp2_with fail; rw [← HW6.out]; refine HP.out.mono ?_; rintro e w7 ⟨rfl, hb7⟩; have B7 := Lib.hid (B6.out.trans (hb7.mono B6.out.size)); have O7 := Lib.hid (pw_own_below O6.out hb7); clear hb7 HP B6 O6 R2 HW6; go_wp2_with (first
    | ((with_reducible refine append_cells (W := w7) w.heap.size rfl (.tmp 43) (.tmp 45) 57 9 (.string ⟨#[]⟩) 1 16 rfl Tryz.underlying57 infoS rfl (by decide) _ i ((T.take i).map Value.string) [.string xt] rfl rfl rfl ?h1 ?ho ?hb ?hn ?hl ?_); (case h1 => intro u hu; simp at hu; subst hu; rfl); (case ho => exact O7.out); (case hb => exact B7.out.size); (case hn => simp only [maxLen]; omega); (case hl => omega); intro v8 w8 ho8 hb8 hg8; (have O8 := Lib.hid ho8); (have B8 := Lib.hid (B7.out.trans hb8)); clear ho8 hb8 hg8 O7 B7)
    | fail)
   go_roundg (L.length - (i + 1))
   case measure => rw [R3.out]; omega
   case rel => exact ⟨i + 1, (by go_num), (by rw [HLn.out, HK1.out]; congr 1; omega), ⟨by rw [HSn.out]; exact O8.out⟩, ⟨own_form O8.out (by omega)⟩, ⟨B8.out⟩, ⟨rfl⟩, by omega⟩
  obtain rfl : i = L.length := by omega
  have hd : decide ((L.length : Int) < (L.length : Int)) = false := decide_eq_false (by omega); have hTl := HT.out.1; obtain ⟨g3, c3, rfl⟩ := R1b.out; have O4 := R1.out; rw [show T.take L.length = T by rw [← hTl, List.take_length]] at O4; rw [show T.take L.length = T by rw [← hTl, List.take_length]]; obtain ⟨K2, hK2⟩ : ∃ K2, K2 = M + lens T := ⟨_, rfl⟩; have hK2s : K2 ≤ 16777216 := by have := HSM.out; omega
  rw [← hK2]; have hbig : decide ((16777216 : Int) < (K2 : Int)) = false := decide_eq_false (by omega); have hbig2 : decide (16777216 < K2) = false := decide_eq_false (by omega); have hcp : L.length ≤ c3 := by
   rcases O4.2 with ⟨h, _⟩ | ⟨g, cap, cur, h, _, _, hnc, _⟩
   · cases h
   cases h; exact hnc
  have hcell : ∀ (j : Nat) x, T[j]? = some x → wr.cell? ⟨g3, 0 + j, none⟩ = some (.string x) := fun j x hj => by
   have h := O4.cells (g := g3) rfl j (.string x) (by rw [List.getElem?_map, hj]; rfl); rw [add_plain] at h; rw [Nat.zero_add]; exact h
  have hg3 : g3 < wr.heap.size := by
   have := hcell 0 (g T 0) (g_get' T 0 (by omega)); exact World.block_lt_of_cell? _ _ this
  have hj := Tryz.strings_Join g3 0 c3 T ofs wr hcell hg3 (by omega) (by omega) (by
   have h := joinB_len T ofs; rw [hTl] at h; have := HSZ.out; omega)
  rw [hTl] at hj; have HJ := Lib.hid hj; have B5 := R2; clear R1 R1b R2 R3 O4 HT hcell hj hg3 hcp hK2; go_wp2_with fail; refine HJ.out.mono ?_; rintro e w9 ⟨rfl, hb9⟩; have B9 := Lib.hid (B5.out.trans (hb9.mono B5.out.size)); clear hb9; go_wp2_with fail; refine bodyPost_ret (results_tmp2 rfl _ _ _) rfl ?_; exact ⟨rfl, B9.out⟩
end Go.Proofs.YtmbacdkpgfbclaaGreatDoor
namespace Go.Proofs.YtmbacdkpgfbclaaGreatDoor
open Go.RowKit Go.Proofs.YtmbacdkpgfbclaaGreatDoorW.PrintWords Go.Proofs.YtmbacdkpgfbclaaGreatDoorW.PrintLast Heap
set_option linter.unusedVariables false
set_option linter.unusedSimpArgs false
set_option maxRecDepth 100000 in
set_option maxHeartbeats 2000000 in
theorem put_walk {base r : Nat} {t : ByteArray} {v : Value} {L L1 : List Val} {fs ofs : ByteArray} {w : World} (hR : RecAt base r t v L fs ofs w) (A1 : Option Addr) (c1 : Nat) (hO : w.ownsRow base 26 3 (.slice A1 L1.length c1) L1.length (flatV L1))
  (T : List ByteArray) (cf : ByteArray) (hT : StrC L1 T cf) (h1 : 1 ≤ L1.length) (hl : L1.length ≤ 1099511627776) (hsz : (L1.length - 1) * ofs.size + lens T ≤ 16777216) (hofs : ofs.size ≤ 16777216) (HG : GW w) :
  Calls Tryz.prog 76 #[.pointer (some ⟨r, 0, none⟩), .slice A1 L1.length c1, .string cf] w fun e w' => e = .returned (.int .i64 0) ∧ RecAt base r (joinB T ofs) (.slice A1 L1.length c1) L1 fs ofs w' ∧ Below base w w' := by
 have c3 := hR.cell3; have hv : VR w A1 L1 := by
  obtain ⟨A2, c2, e, hv⟩ := vr_own' hO; cases e
  exact hv
 have HB := Lib.hid (build_walk A1 c1 L1 T ofs cf w hv hT h1 hl hsz hofs HG); have HR := Lib.hid hR; have HO := Lib.hid hO; clear hR hO hv hT hsz; go_enter Tryz.func76, Tryz.ntmps76; go_wp2_with fail; refine HB.out.mono ?_; rintro e w2 ⟨rfl, hb2⟩; have R2 := HR.out.below hb2; have O2 := pw_own_below HO.out hb2; have hbw : base ≤ w.heap.size := Nat.le_trans HR.out.hb (Nat.le_of_lt HR.out.lt); have B2 := Lib.hid (hb2.mono hbw); have f0 := R2.frozen 0; have f1 := R2.frozen 1; have k0 := R2.cell0; have k1 := R2.cell1; have hrl := R2.lt; have HR2 := Lib.hid R2; have HO2 := Lib.hid O2; clear R2 O2 hb2 HB HR HO c3; go_wp2_with fail; go_ret; refine ⟨rfl, ⟨blk_put (blk_put HR2.out.blk 0 _ rfl) 1 _ rfl, ?_, HR2.out.hb⟩, (B2.out.setCell (p := ⟨r, 0, none⟩) HR2.out.hb _).setCell (p := ⟨r, 1, none⟩) HR2.out.hb _⟩; have hne : some r ≠ (Value.slice A1 L1.length c1).ownBlock := own_ne HO2.out HR2.out.blk (by decide); exact own_setCell (own_setCell HO2.out (p := ⟨r, 0, none⟩) hne _) (p := ⟨r, 1, none⟩) hne _
theorem flatV_set : ∀ (L : List Val) (i : Nat) (e : Val), i < L.length →
  (((flatV L).set (i * 3) (.int .i64 e.1)).set (i * 3 + 1) (.int .u64 e.2.1)).set (i * 3 + 2) (.string e.2.2) = flatV (L.set i e) := by
 intro L; induction L with
 | nil => intro i e h; simp at h
 | cons a L ih =>
  intro i e h; cases i with
  | zero => rfl
  | succ i =>
   have h1 := ih i e (by simpa using h); have e0 : (i + 1) * 3 = (i * 3) + 1 + 1 + 1 := by omega
   show (((encV a ++ flatV L).set ((i + 1) * 3) _).set ((i + 1) * 3 + 1) _).set ((i + 1) * 3 + 2) _ = encV a ++ flatV (L.set i e); rw [← h1, e0]; simp [encV]
theorem valStore {w : World} {B g1 n c : Nat} {vs : List Val} (h : w.ownsRow B 26 3 (.slice (some ⟨g1, 0, none⟩) n c) n (flatV vs)) (i : Nat) (hi : i < vs.length) (x : Val) :
  ((((w.setCell ⟨g1, i * 3, none⟩ (.int .i64 x.1)).setCell ⟨g1, i * 3 + 1, none⟩ (.int .u64 x.2.1)).setCell ⟨g1, i * 3 + 2, none⟩ (.string x.2.2))).ownsRow B 26 3 (.slice (some ⟨g1, 0, none⟩) n c) n (flatV (vs.set i x)) := by
 have h1 := h.stored (i * 3) (.int .i64 x.1); have h2 := h1.1.stored (i * 3 + 1) (.int .u64 x.2.1); have h3 := h2.1.stored (i * 3 + 2) (.string x.2.2); have hrow := h3.1; rw [flatV_set vs i x hi] at hrow; exact hrow
theorem val_free {w : World} {B g1 n c : Nat} {vs : List Val} (h : w.ownsRow B 26 3 (.slice (some ⟨g1, 0, none⟩) n c) n (flatV vs)) (j : Nat) : w.frozen? ⟨g1, j, none⟩ = false := by
 obtain ⟨cells, hcells⟩ := own_typed h g1 rfl; simp [World.frozen?, hcells]
set_option maxRecDepth 100000 in
set_option maxHeartbeats 400000 in
theorem Set_walk {base r : Nat} {t : ByteArray} {v : Value} {L : List Val} {fs ofs : ByteArray} {w : World} (hR : RecAt base r t v L fs ofs w) (i : Int) (j : Nat) (hij : i = (j : Int) + 1) (hi : i ≤ 32768) (x : Val) (p : Val) (hp : plainOf x.1 x.2.1 x.2.2 = p) (n : Nat) (hn : n = max (j + 1) L.length) (hL : L.length ≤ 32768)
  (T : List ByteArray) (cf : ByteArray) (hT : StrC ((sized L n).set j p) T cf) (hsz : (n - 1) * ofs.size + lens T ≤ 16777216) (hofs : ofs.size ≤ 16777216) (HG : GW w) :
  Calls Tryz.prog 35 #[.pointer (some ⟨r, 0, none⟩), .int .i64 i, vAgg x.1 x.2.1 x.2.2, .string cf] w fun e w' => e = .returned (.int .i64 0) ∧ (∃ v', RecAt base r (joinB T ofs) v' ((sized L n).set j p) fs ofs w') ∧ Below base w w' := by
 obtain ⟨xa, xb, xc⟩ := x; obtain ⟨pa, pb, pc⟩ := p; obtain ⟨A0, c0, rfl⟩ := own_slice hR.row; have k1 := fun o => cellA hR.cell1 o
 have hrl := hR.lt; have hd1 : decide (i < 0) = false := decide_eq_false (by omega); have hd2 : decide (i > 32768) = false := decide_eq_false (by omega); have hd2' : decide (32768 < i) = false := decide_eq_false (by omega); have hd3 : decide (i > 0) = true := decide_eq_true (by omega); have hd3' : decide (0 < i) = true := decide_eq_true (by omega); have hmx : max i (L.length : Int) = (n : Int) := by omega
 have hwk : IntKind.i64.wrap (i - 1) = (j : Int) := by simp [IntKind.wrap, IntKind.bits, IntKind.signed]; omega
 have hjn : (j : Int) < (n : Int) := by omega
 have HR := Lib.hid hR; have HT := Lib.hid hT; have HSZ := Lib.hid hsz; obtain ⟨W1, hW1⟩ : ∃ W1, W1 = w.alloc (.cells #[.int .i64 xa, .int .u64 xb, .string xc] 26) := ⟨_, rfl⟩; have hb1 : Below w.heap.size w W1 := by rw [hW1]; exact below_alloc (Below.refl _ _) _
 have hbx : W1.heap[w.heap.size]? = some (.cells #[.int .i64 xa, .int .u64 xb, .string xc] 26 (0, 0)) := by rw [hW1]; exact blk_new _ _
 have HB1 := Lib.hid hb1; have HBX := Lib.hid hbx; have HZ := Lib.hid (resized_walk (hR.below hb1) n (by omega) (by omega)); have HW1 := Lib.hid hW1; have HP := Lib.hid hp; have HIJ := Lib.hid hij; have HN := Lib.hid hn; have hgn : 0 < n := by omega
 have hnb : n ≤ 32768 := by omega
 clear hR hT hsz hb1 hbx hW1 hp hij hn; go_enter Tryz.func35, Tryz.ntmps35; go_wp2_with fail; rw [← HW1.out]; refine HZ.out.mono ?_; rintro e w2 ⟨v2, rfl, ho2, hb2⟩; obtain ⟨g2, c2, rfl⟩ := own_form ho2 hgn; have hbx2 := blk_below HBX.out hb2; have b0 : w2.cell? ⟨w.heap.size, 0, none⟩ = some (.int .i64 xa) := (blk_cell hbx2 0).trans rfl; have b1 : w2.cell? ⟨w.heap.size, 1, none⟩ = some (.int .u64 xb) := (blk_cell hbx2 1).trans rfl; have b2 : w2.cell? ⟨w.heap.size, 2, none⟩ = some (.string xc) := (blk_cell hbx2 2).trans rfl; have B2 := Lib.hid (HB1.out.trans (hb2.mono HB1.out.size)); have O2 := Lib.hid (ho2.mono HB1.out.size); clear ho2 hb2 hbx2 k1 HZ HBX; have HPl := Lib.hid (Plain_any xa xb xc w2); have hpp := HP.out; rw [show plainOf xa xb xc = (pa, pb, pc) from hpp] at HPl; clear hpp; go_wp2_with fail; refine HPl.out.mono ?_; rintro e w3 ⟨rfl, hb3⟩; have O3 := pw_own_below O2.out hb3; have hlz := sized_len L n; have hjz : j < (sized L n).length := by rw [hlz]; have := HN.out; omega
 obtain ⟨z0, z1, z2⟩ := valRow O3 j hjz _ rfl; have hf0 := val_free O3 (j * 3); have hf1 := val_free O3 (j * 3 + 1); have hf2 := val_free O3 (j * 3 + 2); have hg3 : g2 < w3.heap.size := World.block_lt_of_cell? _ _ z0; have hO4 := valStore O3 j hjz (pa, pb, pc); have hbg : w.heap.size ≤ g2 := own_base O3 g2 rfl; have B3 := Lib.hid (B2.out.trans (hb3.mono B2.out.size)); have hB4 : Below w.heap.size w (((w3.setCell ⟨g2, j * 3, none⟩ (.int .i64 pa)).setCell ⟨g2, j * 3 + 1, none⟩ (.int .u64 pb)).setCell ⟨g2, j * 3 + 2, none⟩ (.string pc)) :=
  ((B3.out.setCell (p := ⟨g2, j * 3, none⟩) hbg _).setCell (p := ⟨g2, j * 3 + 1, none⟩) hbg _).setCell (p := ⟨g2, j * 3 + 2, none⟩) hbg _
 obtain ⟨W4, hW4⟩ : ∃ W4, W4 = (((w3.setCell ⟨g2, j * 3, none⟩ (.int .i64 pa)).setCell ⟨g2, j * 3 + 1, none⟩ (.int .u64 pb)).setCell ⟨g2, j * 3 + 2, none⟩ (.string pc)) := ⟨_, rfl⟩; rw [← hW4] at hO4 hB4; have hls : ((sized L n).set j (pa, pb, pc)).length = n := by rw [List.length_set, hlz]
 have hbase : base ≤ w.heap.size := Nat.le_trans HR.out.hb (Nat.le_of_lt HR.out.lt); have hput := put_walk (HR.out.below hB4) (some ⟨g2, 0, none⟩) c2 (L1 := (sized L n).set j (pa, pb, pc)) (by rw [hls]; exact hO4.mono hbase) T cf HT.out (by omega) (by omega) (by rw [hls]; exact HSZ.out) hofs (HG.below hB4); rw [hls] at hput; have HPut := Lib.hid hput; have HB4 := Lib.hid (hB4.mono hbase); have HW4 := Lib.hid hW4; clear O3 hlz hjz hb3 hO4 hB4 hW4 hls hput b0 b1 b2 hbg hbase HPl O2 B2 B3; go_wp2_with fail; rw [← HW4.out]; refine HPut.out.mono ?_; rintro e w5 ⟨rfl, hR5, hb5⟩; have R5 := Lib.hid hR5; have B5 := Lib.hid (HB4.out.trans hb5); clear hR5 hb5 HPut; go_wp2_with fail; go_ret; exact ⟨rfl, ⟨_, R5.out⟩, B5.out⟩
end Go.Proofs.YtmbacdkpgfbclaaGreatDoor
