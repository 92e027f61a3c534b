/- RecordLists, walked: true; conditions: none. -/
import Derived.Test.YtmbacdkpgfbclaaGreatDoorRecS
import Derived.Test.YtmbacdkpgfbclaaGreatDoorPXIx11
namespace Go.Proofs.YtmbacdkpgfbclaaGreatDoor
open Go.RowKit Go.Proofs.YtmbacdkpgfbclaaGreatDoorW.PrintWords Go.Proofs.YtmbacdkpgfbclaaGreatDoorW.PrintLast Heap
set_option linter.unusedVariables false
set_option linter.unusedSimpArgs false
def plV (v : Val) : Val := plainOf v.1 v.2.1 v.2.2
/-- k of n operations are still open. -/
def trn (n k : Nat) : Array Bool := (List.replicate (n - k) true ++ List.replicate k false).toArray
theorem tkn (n b : Nat) {P : Program} {md : Region.Mode} {ops : Array Oper} {Q : Exit → Act → World → Prop} {S : World → Prop} {ds : List Nat} {fuel : Nat} {oi : Oper} {v : Value} {a : Act} {w : World} (hi : ops[n - 1 - fuel]? = some oi) (hN : oi.dst = some (b - fuel)) (hc : takeB md ops ds (trn n (fuel + 1)) (trn n fuel) (n - 1 - fuel) = true)
  (hQ : ∀ c a w, Q (.panic c) (a.put oi.dst v) w → Q (.panic c) a w) (hy : YieldsIf P ops S oi v a) (hS : S w) {a' : Act} (ha : a.put (some (b - fuel)) v = a') (h : wpAnyLast P md ops Q S ds fuel (trn n fuel) a' w) : wpAnyLast P md ops Q S ds (fuel + 1) (trn n (fuel + 1)) a w :=
 take_ (trn n fuel) hi hN hc hQ hy hS ha h
/-- What the round's loads read. -/
def SL (r q : Nat) (v : Value) (xa xb : Int) (xc : ByteArray) (u : World) : Prop := u.cell? ⟨r, 1, none⟩ = some v ∧ u.cell? ⟨q, 0, none⟩ = some (.int .i64 xa) ∧ u.cell? ⟨q, 1, none⟩ = some (.int .u64 xb) ∧ u.cell? ⟨q, 2, none⟩ = some (.string xc)
end Go.Proofs.YtmbacdkpgfbclaaGreatDoor
namespace Go.Proofs.YtmbacdkpgfbclaaGreatDoor
open Go.RowKit Go.Proofs.YtmbacdkpgfbclaaGreatDoorW.PrintWords Go.Proofs.YtmbacdkpgfbclaaGreatDoorW.PrintLast Heap
set_option linter.unusedVariables false
set_option linter.unusedSimpArgs false
theorem in10 : PXI.value_Input.f 200 ⟨#[49, 48]⟩ = some (3, 4621819117588971520, ⟨#[49, 48]⟩) := by decide +kernel
theorem inX : PXI.value_Input.f 200 ⟨#[120]⟩ = some (2, 0, ⟨#[120]⟩) := by decide +kernel
def V10 : Val := (3, 4621819117588971520, ⟨#[49, 48]⟩)
def Vx : Val := (2, 0, ⟨#[120]⟩)
def Vy : Val := (2, 0, ⟨#[121]⟩)
theorem aw_lines : linesOf ⟨#[97, 10, 98, 10]⟩ ⟨#[10]⟩ = [⟨#[97]⟩, ⟨#[98]⟩] := by
 have c0 : cutsFrom ⟨#[97, 10, 98, 10]⟩ ⟨#[10]⟩ 0 = [(0, 1), (2, 3), (4, 4)] := by
  rw [cutsFrom_hit (x := 1) (by decide) (by decide) (by decide), cutsFrom_hit (x := 1) (by decide) (by decide) (by decide), cutsFrom_miss (by decide)]; rfl
 unfold linesOf; rw [c0]; rfl
theorem aw_fields : fieldsOf ⟨#[97, 44, 98]⟩ ⟨#[44]⟩ = [⟨#[97]⟩, ⟨#[98]⟩] := by
 have c0 : cutsFrom ⟨#[97, 44, 98]⟩ ⟨#[44]⟩ 0 = [(0, 1), (2, 3)] := by
  rw [cutsFrom_hit (x := 1) (by decide) (by decide) (by decide), cutsFrom_miss (by decide)]; rfl
 unfold fieldsOf; rw [if_neg (by decide), if_neg (by decide), if_neg (by decide), c0]; rfl
theorem aw_runs : fieldsOf ⟨#[49, 48, 32, 120]⟩ ⟨#[32]⟩ = [⟨#[49, 48]⟩, ⟨#[120]⟩] := by
 have e0 : runEnd ⟨#[49, 48, 32, 120]⟩ 0 = 2 := by
  rw [runEnd_go (by decide) (by decide), runEnd_go (by decide) (by decide), runEnd_stop (by decide)]
 have e3 : runEnd ⟨#[49, 48, 32, 120]⟩ 3 = 4 := by
  rw [runEnd_go (by decide) (by decide), runEnd_stop (by decide)]
 have c0 : runs ⟨#[49, 48, 32, 120]⟩ = [(0, 2), (3, 4)] := by
  unfold runs; rw [runsFrom_run (by decide) (by decide), e0, runsFrom_blank (by decide) (by decide), runsFrom_run (by decide) (by decide), e3, runsFrom_end (by decide)]
 unfold fieldsOf; rw [if_neg (by decide), if_pos rfl, c0]; rfl
theorem aw_in : InC [⟨#[49, 48]⟩, ⟨#[120]⟩] [V10, Vx] := by
 refine ⟨rfl, fun i hi u hu => ?_⟩; rcases i with _ | _ | i
 · exact PXI.value_Input.calls 200 _ _ _ _ u in10 (HG := ⟨hu⟩)
 · exact PXI.value_Input.calls 200 _ _ _ _ u inX (HG := ⟨hu⟩)
 exact absurd hi (by show ¬ i + 1 + 1 < 2; omega)
theorem aw_str (cf : ByteArray) : StrC ((sized [V10, Vx] 4).set 3 Vy) [⟨#[49, 48]⟩, ⟨#[120]⟩, ⟨#[]⟩, ⟨#[121]⟩] cf := by
 refine ⟨rfl, fun i hi u hu => ?_⟩; rcases i with _ | _ | _ | _ | i
 · exact ToStr_3 _ _ cf u
 · exact ToStr_2 _ _ cf u
 · exact ToStr_0 0 _ _ cf u rfl rfl rfl
 · exact ToStr_2 _ _ cf u
 exact absurd hi (by show ¬ i + 1 + 1 + 1 + 1 < 4; omega)
theorem aw_join : joinB [⟨#[49, 48]⟩, ⟨#[120]⟩, ⟨#[]⟩, ⟨#[121]⟩] ⟨#[45]⟩ = ⟨#[49, 48, 45, 120, 45, 45, 121]⟩ := by decide +kernel
set_option maxRecDepth 100000 in
set_option maxHeartbeats 4000000 in
theorem awake_walk (w : World) (HG : GM w) : Calls Tryz.prog 30 #[] w fun e w' => e = .returned (.bool true) ∧ Below w.heap.size w w' := by
 go_enter Tryz.func30, Tryz.ntmps30; go_wp2_with fail; refine (Lines_walk _ _ (by decide) (by decide) w HG).mono ?_; rintro e w1 ⟨v1, rfl, ho1, hb1⟩; rw [aw_lines] at ho1; obtain ⟨A1, c1, rfl, hr1⟩ := sr_own ho1; have B1 := Lib.hid hb1; have S1 := Lib.hid hr1; clear ho1 hb1 hr1; go_wp2_with fail; refine (Fields_walk _ _ (by decide) w1 (HG.below B1.out)).mono ?_; rintro e w2 ⟨v2, rfl, ho2, hb2⟩; rw [aw_fields] at ho2; obtain ⟨A2, c2, rfl, hr2⟩ := sr_own ho2; have B2 := Lib.hid (B1.out.trans (hb2.mono B1.out.size)); obtain ⟨ad1, hA1, x0⟩ := (S1.out.below hb2) 0 (by decide); obtain ⟨_, hA1', x1⟩ := (S1.out.below hb2) 1 (by decide); subst hA1; cases hA1'
 obtain ⟨ad2, hA2, y1⟩ := hr2 1 (by decide); subst hA2; have x0' : w2.cell? ad1 = some (.string ⟨#[97]⟩) := (congrArg w2.cell? (show ad1 = ad1.add 0 by cases ad1; simp [Addr.add])).trans x0; have x1' : w2.cell? ⟨ad1.block, ad1.off + 1, none⟩ = some (.string ⟨#[98]⟩) := x1; have y1' : w2.cell? ⟨ad2.block, ad2.off + 1, none⟩ = some (.string ⟨#[98]⟩) := y1; clear ho2 hb2 hr2 x0 x1 y1 S1 B1; go_wp2_with fail; refine (New_walk ⟨#[49, 48, 32, 120]⟩ ⟨#[32]⟩ ⟨#[45]⟩ [V10, Vx] (by decide) (by rw [aw_runs]; decide) (by rw [aw_runs]; exact aw_in) w2 (HG.below B2.out)).mono ?_; rintro e w3 ⟨r, v3, rfl, hR3, hb3⟩; have B3 := Lib.hid (B2.out.trans (hb3.mono B2.out.size)); have R3 := Lib.hid hR3; have hbr : w2.heap.size ≤ r := hR3.hb; clear hR3 hb3 x0' x1' y1'; go_wp2_with fail; refine (Set_walk R3.out 4 3 (by decide) (by decide) Vy Vy (by decide) 4 (by decide) (by decide) [⟨#[49, 48]⟩, ⟨#[120]⟩, ⟨#[]⟩, ⟨#[121]⟩] _ (aw_str _) (by decide) (by decide) (HG.gw.below B3.out)).mono ?_; rintro e w4 ⟨rfl, ⟨v4, hR4⟩, hb4⟩; rw [aw_join] at hR4; have B4 := Lib.hid (B3.out.trans (hb4.mono B2.out.size)); have R4 := Lib.hid hR4; clear hR4 hb4 R3; go_wp2_with fail; refine (Text_walk R4.out).mono ?_; rintro e w5 ⟨rfl, rfl⟩; go_wp2_with fail; refine (Count_walk R4.out).mono ?_; rintro e w6 ⟨rfl, rfl⟩; have hlen : ((((sized [V10, Vx] 4).set 3 Vy).length : Nat) : Int) = 4 := by decide
 rw [hlen]; go_wp2_with fail; go_ret; exact ⟨rfl, B4.out⟩
end Go.Proofs.YtmbacdkpgfbclaaGreatDoor
namespace Go.Proofs.YtmbacdkpgfbclaaGreatDoor
open Go.RowKit Go.Proofs.YtmbacdkpgfbclaaGreatDoorW.PrintWords Go.Proofs.YtmbacdkpgfbclaaGreatDoorW.PrintLast Heap
set_option linter.unusedVariables false
set_option linter.unusedSimpArgs false
theorem idx_head : ∀ (l : List UInt8) (x : Nat), Lib.index l [10, 10] = (x : Int) → l[x]? = some 10
 | [], x, h => by
  unfold Lib.index at h
  simp at h
 | b :: l, x, h => by
  unfold Lib.index at h
  split at h
  ·
   rename_i hp
   obtain rfl : x = 0 := by omega
   simp [List.isPrefixOf] at hp
   simp [hp.1]
  ·
   split at h
   ·
    omega
   ·
    rename_i hn
    cases x with
    | zero =>
     exfalso
     apply hn
     simp
     omega
    | succ x =>
     have := idx_head l x (by omega)
     simpa using this
def trimL (s : ByteArray) : ByteArray := ⟨(Lib.trimLeftB s.data.toList 10).toArray⟩
def nn (t : ByteArray) : Int := Lib.index t.data.toList [10, 10]
/-- The paragraphs of a text, in at most f steps. -/
def paraF : Nat → ByteArray → List ByteArray
 | 0, _ => []
 | f + 1, t => if t.size = 0 then [] else if nn t < 0 then [t] else t.extract 0 (nn t).toNat :: paraF f (trimL (t.extract (nn t).toNat t.size))
theorem trimL_lt {s : ByteArray} (h : s.data.toList[0]? = some 10) : (trimL s).size < s.size := by
 show (Lib.trimLeftB s.data.toList 10).toArray.size < s.data.size; cases hl : s.data.toList with
 | nil => rw [hl] at h; cases h
 | cons b l =>
  rw [hl] at h; obtain rfl : b = 10 := by simpa using h
  have h2 := (List.dropWhile_sublist (l := l) (fun b : UInt8 => b == 10)).length_le; have h3 : s.data.size = l.length + 1 := by rw [← Array.length_toList, hl]; rfl
  rw [h3]; simp [Lib.trimLeftB]; omega
theorem nn_lt {t : ByteArray} {x : Nat} (h : nn t = (x : Int)) : x < t.size ∧ (trimL (t.extract x t.size)).size < t.size := by
 have h1 := idx_head _ x h; have hx : x < t.size := by
  have := (List.getElem?_eq_some_iff.1 h1).1; rw [Array.length_toList] at this; exact this
 refine ⟨hx, ?_⟩; have h2 : (t.extract x t.size).data.toList[0]? = some 10 := by
  obtain ⟨⟨l⟩⟩ := t; rw [ByteArray.extract_mk]; have e : (ByteArray.mk ⟨l⟩).size = l.length := rfl; rw [e] at hx; simp only [e, List.extract_toArray, List.extract_eq_take_drop] at h1 ⊢; rw [List.getElem?_take, if_pos (by omega), List.getElem?_drop]; simpa using h1
 have h3 := trimL_lt h2; rw [ByteArray.size_extract] at h3; omega
theorem appS {F : List ByteArray} {x : ByteArray} : (F ++ [x]).map Value.string = F.map Value.string ++ [.string x] := by simp
set_option maxRecDepth 100000 in
set_option maxHeartbeats 2000000 in
theorem paras_walk (s : ByteArray) (f : Nat) (hs : s.size < 4294967281) (hf : s.size < f) (hfb : f ≤ 4294967300) (w : World) (HG : GM w) :
  Calls Tryz.prog 78 #[.string s] w fun e w' => ∃ v, e = .returned v ∧ w'.ownsRow w.heap.size 9 1 v (paraF f s).length ((paraF f s).map Value.string) ∧ Below w.heap.size w w' := by
 obtain ⟨R, hR⟩ : ∃ R, R = paraF f s := ⟨_, rfl⟩; rw [← hR]; have HS := Lib.hid hs; have HF := Lib.hid hf; have HR := Lib.hid hR; clear hs hf hR; go_enter Tryz.func78, Tryz.ntmps78; go_wp2_with fail; go_loopg [0, 3, 4] f (fun d s0 s3 s4 wx => ∃ (t : ByteArray) (F : List ByteArray), s0 = .string t ∧ Aside0 (wx.ownsRow w.heap.size 9 1 s3 F.length (F.map Value.string)) ∧ Aside0 (R = F ++ paraF d t) ∧ Aside0 (t.size < d) ∧ Aside0 (F.length + d ≤ f) ∧ Aside0 (t.size ≤ s.size) ∧ Aside0 (Below w.heap.size w wx))
 case atStart => exact ⟨s, [], rfl, ⟨World.ownsRow_nil _ _ _ _⟩, ⟨HR.out⟩, ⟨HF.out⟩, ⟨by simp⟩, ⟨Nat.le_refl _⟩, ⟨Below.refl _ _⟩⟩
 case round =>
  obtain ⟨t, F, rfl, R1, R2, R3, R4, R5, R6⟩ := hrel; obtain ⟨d, rfl⟩ : ∃ d, gk = d + 1 := ⟨gk - 1, by have := R3.out; omega⟩; obtain ⟨A3, c3, rfl⟩ := own_slice R1.out; have hts : t.size < 4294967281 := by have := R5.out; have := HS.out; omega
  have hFl : F.length ≤ 4294967300 := by have := R4.out; omega
  by_cases h0 : t.size = 0
  ·
   have hE : t.toList.isEmpty = true := by
    rw [show t.toList = t.data.toList from ByteArray.toList_eq t, List.isEmpty_iff]; exact List.eq_nil_of_length_eq_zero (by rw [Array.length_toList]; exact h0)
   have hE2 : (t.toList == ([] : List UInt8)) = true := by rw [List.isEmpty_iff.1 hE]; rfl
   have hRF : R = F := by
    have := R2.out; rw [paraF, if_pos h0, List.append_nil] at this; exact this
   have O1 := Lib.hid R1.out; have HRF := Lib.hid hRF; have B6 := Lib.hid R6.out; clear R1 R2 R3 R4 R5 R6 hRF; go_wp2_with fail; go_ret; refine ⟨_, rfl, ?_, B6.out⟩; rw [HRF.out]; exact O1.out
  have hE : t.toList.isEmpty = false := by
   cases h2 : t.toList with
   | nil =>
    rw [show t.toList = t.data.toList from ByteArray.toList_eq t] at h2; have h3 := congrArg List.length h2; rw [Array.length_toList] at h3; exact absurd h3 h0
   | cons a l => rfl
  obtain ⟨m, hm⟩ := (HG.below R6.out).ml; have HI := Lib.hid (Tryz.strings_Index t ⟨#[10, 10]⟩ m wr hts hm); obtain ⟨X, hX⟩ : ∃ X, X = nn t := ⟨_, rfl⟩; have hge : -1 ≤ X := by rw [hX]; exact Lib.index_ge _ _
  rw [show Lib.index t.data.toList (⟨#[10, 10]⟩ : ByteArray).data.toList = X from hX.symm] at HI; have O1 := Lib.hid R1.out; have B6 := Lib.hid R6.out; by_cases hneg : X < 0
  ·
   have hd : decide (X < 0) = true := decide_eq_true hneg; have hRF : R = F ++ [t] := by
    have := R2.out; rw [paraF, if_neg h0, ← hX, if_pos hneg] at this; exact this
   have HRF := Lib.hid hRF; clear R1 R2 R3 R4 R5 R6 hRF hX hm h0; go_wp2_with fail; refine HI.out.mono ?_; rintro e w7 ⟨rfl, rfl⟩; go_wp2_with (first
    | ((with_reducible refine append_cells (W := w7) w.heap.size rfl (.tmp 11) (.tmp 13) 57 9 (.string ⟨#[]⟩) 1 16 rfl Tryz.underlying57 infoS rfl (by decide) _ F.length (F.map Value.string) [.string t] rfl rfl rfl ?h1 ?ho ?hb ?hn ?hl ?_); (case h1 => intro u hu; simp at hu; subst hu; rfl); (case ho => exact O1.out); (case hb => exact B6.out.size); (case hn => simp only [maxLen]; omega); (case hl => omega); intro v8 w8 ho8 hb8 hg8; (have O8 := Lib.hid ho8); (have B8 := Lib.hid (B6.out.trans hb8)); clear ho8 hb8 hg8 O1 B6)
    | fail)
   go_ret; refine ⟨_, rfl, ?_, B8.out⟩; rw [HRF.out, appS, List.length_append]; exact O8.out
  obtain ⟨x, hx⟩ : ∃ x : Nat, X = (x : Int) := ⟨X.toNat, by omega⟩; have hd : decide (X < 0) = false := decide_eq_false hneg; have hd2 : decide ((x : Int) < 0) = false := decide_eq_false (by omega); obtain ⟨hxs, hlt⟩ := nn_lt (hX.symm.trans hx); have hRF : R = (F ++ [t.extract 0 x]) ++ paraF d (trimL (t.extract x t.size)) := by
   have := R2.out; rw [paraF, if_neg h0, ← hX, if_neg hneg, hx, Int.toNat_natCast] at this; rw [this]; simp
  have R3' := R3; have R4' := R4; have R5' := R5; rw [hx] at HI; obtain ⟨TL, hTL⟩ : ∃ TL, TL = trimL (t.extract x t.size) := ⟨_, rfl⟩; have hTLc : ∀ u : World, Calls Tryz.prog 99 #[.string (t.extract x t.size), .string ⟨#[10]⟩] u fun e w' => e = .returned (.string TL) ∧ w' = u := fun u => by rw [hTL]; exact Tryz.strings_TrimLeft_one (t.extract x t.size) 10 (by decide) u
  have HTL := Lib.hid hTLc; rw [← hTL] at hRF hlt; have HRF := Lib.hid hRF; have HLT := Lib.hid hlt; clear R1 R2 R3 R4 R5 R6 hRF hlt hX hm hx hneg hge hd h0 hTL hTLc; go_wp2_with fail; refine HI.out.mono ?_; rintro e w7 ⟨rfl, rfl⟩; go_wp2_with (first
   | ((with_reducible refine append_cells (W := w7) w.heap.size rfl (.tmp 15) (.tmp 19) 57 9 (.string ⟨#[]⟩) 1 16 rfl Tryz.underlying57 infoS rfl (by decide) _ F.length (F.map Value.string) [.string (t.extract 0 x)] rfl rfl rfl ?h1 ?ho ?hb ?hn ?hl ?_); (case h1 => intro u hu; simp at hu; subst hu; rfl); (case ho => exact O1.out); (case hb => exact B6.out.size); (case hn => simp only [maxLen]; omega); (case hl => omega); intro v8 w8 ho8 hb8 hg8; (have O8 := Lib.hid ho8); (have B8 := Lib.hid (B6.out.trans hb8)); clear ho8 hb8 hg8 O1 B6)
   | fail)
  refine (HTL.out w8).mono ?_; rintro e w9 ⟨rfl, rfl⟩; have O9 := O8.out; have e9 : F.length + 1 = (F ++ [t.extract 0 x]).length := by simp
  rw [← appS, e9] at O9; have HO9 := Lib.hid O9; clear O8 O9 HTL; go_wp2_with fail; go_roundg d
  case measure => omega
  case rel => exact ⟨TL, F ++ [t.extract 0 x], rfl, ⟨HO9.out⟩, ⟨HRF.out⟩, ⟨by have := HLT.out; have := R3'.out; omega⟩, ⟨by have := R4'.out; rw [← e9]; omega⟩, ⟨by have := HLT.out; have := R5'.out; omega⟩, ⟨B8.out⟩⟩
def trimN (s : ByteArray) : ByteArray := ⟨(Lib.trimB s.data.toList 10).toArray⟩
theorem trimN_le (s : ByteArray) : (trimN s).size ≤ s.size := by
 show (Lib.trimB s.data.toList 10).toArray.size ≤ s.data.size; have h1 := (List.dropWhile_sublist (l := Lib.trimRightB s.data.toList 10) (fun b : UInt8 => b == 10)).length_le; have h2 := (List.dropWhile_sublist (l := s.data.toList.reverse) (fun b : UInt8 => b == 10)).length_le; unfold Lib.trimB Lib.trimLeftB; unfold Lib.trimRightB at h1 ⊢; rw [List.length_reverse] at h1 h2; rw [List.size_toArray, ← Array.length_toList]; exact Nat.le_trans h1 h2
/-- record.Lines. -/
def linesA (s sep : ByteArray) : List ByteArray := if sep.size = 0 then paraF (s.size + 1) (trimN s) else linesOf s sep
set_option maxRecDepth 100000 in
set_option maxHeartbeats 2000000 in
theorem LinesA_walk (s sep : ByteArray) (hs : s.size < 4294967281) (w : World) (HG : GM w) :
  Calls Tryz.prog 39 #[.string s, .string sep] w fun e w' => ∃ v, e = .returned v ∧ w'.ownsRow w.heap.size 9 1 v (linesA s sep).length ((linesA s sep).map Value.string) ∧ Below w.heap.size w w' := by
 by_cases h0 : sep.size = 0
 ·
  have e1 : linesA s sep = paraF (s.size + 1) (trimN s) := if_pos h0; rw [e1]; obtain rfl : sep = ⟨#[]⟩ := by
   cases sep with
   | mk d => exact congrArg _ (Array.eq_empty_of_size_eq_zero h0)
  have hle := trimN_le s; have HT := Lib.hid (fun u => Tryz.strings_Trim_one s 10 (by decide) u (by omega)); have HP := Lib.hid (fun u (hu : GM u) => paras_walk (trimN s) (s.size + 1) (by omega) (by omega) (by omega) u hu); clear e1 h0 hle; go_enter Tryz.func39, Tryz.ntmps39; go_wp2_with fail; refine (HT.out _).mono ?_; rintro e w1 ⟨rfl, hw⟩; have hB1 : Below w.heap.size w w1 := by
   have hb := below_alloc (below_alloc (Below.refl w.heap.size w) (.cells #[.string s] 9)) (.cells #[.slice none 0 0] 57); rcases hw with rfl | rfl
   · exact hb
   exact below_drew hb
  have B1 := Lib.hid hB1; clear hw hB1; go_wp2_with fail; refine (HP.out _ (HG.below B1.out)).mono ?_; rintro e w2 ⟨v2, rfl, ho2, hb2⟩; have O2 := Lib.hid (ho2.mono B1.out.size); have B2 := Lib.hid (B1.out.trans (hb2.mono B1.out.size)); obtain ⟨A2, c2, rfl⟩ := own_slice ho2; clear ho2 hb2; go_wp2_with fail; go_ret; exact ⟨_, rfl, O2.out, B2.out⟩
 have e1 : linesA s sep = linesOf s sep := if_neg h0; rw [e1]; exact Lines_walk s sep hs (by omega) w HG
set_option maxRecDepth 100000 in
set_option maxHeartbeats 2000000 in
theorem sameTexts_walk (F : List ByteArray) (A0 A1 : Option Addr) (c0 c1 : Nat) (hl : F.length ≤ 4294967300) (w : World) (h0 : SR w A0 F) (h1 : SR w A1 F) :
  Calls Tryz.prog 42 #[.slice A0 F.length c0, .slice A1 F.length c1] w fun e w' => e = .returned (.bool true) ∧ Below w.heap.size w w' := by
 have H0 := Lib.hid h0; have H1 := Lib.hid h1; have hne : ((F.length : Int) != (F.length : Int)) = false := bne_self_eq_false _; have hlb : (F.length : Int) ≤ 4294967300 := by omega
 clear h0 h1; go_enter Tryz.func42, Tryz.ntmps42; go_wp2_with fail; go_loopg [5] F.length (fun d s5 wx => ∃ (i : Nat), s5 = .int .i64 (i : Int) ∧ Aside0 (Below w.heap.size w wx) ∧ Aside0 (d = F.length - i) ∧ i ≤ F.length)
 case atStart => exact ⟨0, rfl, ⟨Below.refl _ _⟩, ⟨rfl⟩, Nat.zero_le _⟩
 case round =>
  obtain ⟨i, rfl, R1, R2, hi⟩ := hrel; by_cases hlt : i < F.length
  ·
   have hd : decide ((i : Int) < (F.length : Int)) = true := decide_eq_true (by omega); obtain ⟨a0, hA0, x0⟩ := (H0.out.below R1.out) i hlt; obtain ⟨a1, hA1, x1⟩ := (H1.out.below R1.out) i hlt; subst hA0 hA1; obtain ⟨X, hX⟩ : ∃ X, g F i = X := ⟨_, rfl⟩; rw [hX] at x0 x1; have hself : (X.toList != X.toList) = false := bne_self_eq_false _; have hi2 : (i : Int) < (F.length : Int) := by omega
   clear hX; go_wp2_with fail; go_quiet (fail)
   (try go_wp2_with fail); go_roundg (F.length - (i + 1))
   case measure => rw [R2.out]; omega
   case rel => exact ⟨i + 1, (by go_num), ⟨pw_below_drewN R1.out _⟩, ⟨rfl⟩, by omega⟩
  obtain rfl : i = F.length := by omega
  have hd : decide ((F.length : Int) < (F.length : Int)) = false := decide_eq_false (by omega); go_wp2_with fail; go_ret; exact ⟨rfl, R1.out⟩
end Go.Proofs.YtmbacdkpgfbclaaGreatDoor
namespace Go.Proofs.YtmbacdkpgfbclaaGreatDoor
open Go.RowKit Go.Proofs.YtmbacdkpgfbclaaGreatDoorW.PrintWords Go.Proofs.YtmbacdkpgfbclaaGreatDoorW.PrintLast Heap
set_option linter.unusedVariables false
set_option linter.unusedSimpArgs false
/-- The first i of n texts are marks. -/
def told (F : List ByteArray) (m : ByteArray) (i : Nat) : List ByteArray := List.replicate i m ++ F.drop i
theorem told_len (F : List ByteArray) (m : ByteArray) (i : Nat) (hi : i ≤ F.length) : (told F m i).length = F.length := by
 unfold told; rw [List.length_append, List.length_replicate, List.length_drop]; omega
theorem told_set (F : List ByteArray) (m : ByteArray) (i : Nat) (hi : i < F.length) : ((told F m i).map Value.string).set i (.string m) = (told F m (i + 1)).map Value.string := by
 rw [← List.map_set]; congr 1
 unfold told; rw [List.set_append_right _ _ (by rw [List.length_replicate]; exact Nat.le_refl _), List.length_replicate, Nat.sub_self, List.drop_eq_getElem_cons hi, List.set_cons_zero, List.replicate_succ', List.append_assoc]; rfl
theorem told_all (F : List ByteArray) (m : ByteArray) : told F m F.length = List.replicate F.length m := by
 unfold told; rw [List.drop_length, List.append_nil]
theorem row_free {w : World} {B g1 n c size : Nat} {e : TypeId} {xs : List Value} (h : w.ownsRow B e size (.slice (some ⟨g1, 0, none⟩) n c) n xs) (j : Nat) : w.frozen? ⟨g1, j, none⟩ = false := by
 obtain ⟨cells, hcells⟩ := own_typed h g1 rfl; simp [World.frozen?, hcells]
set_option maxRecDepth 100000 in
set_option maxHeartbeats 2000000 in
theorem tell_walk (F : List ByteArray) (m : ByteArray) (base : Nat) (v : Value) (hl : F.length ≤ 4294967300) (w : World) (hO : w.ownsRow base 9 1 v F.length (F.map Value.string)) :
  Calls Tryz.prog 41 #[v, .string m] w fun e w' => e = .returned (.tuple #[]) ∧ w'.ownsRow base 9 1 v F.length ((List.replicate F.length m).map Value.string) ∧ w.grownBy w' v.ownBlock := by
 obtain ⟨A, c, rfl⟩ := own_slice hO; have HO := Lib.hid hO; have hlb : (F.length : Int) ≤ 4294967300 := by omega
 clear hO; go_enter Tryz.func41, Tryz.ntmps41; go_wp2_with fail; go_loopg [4] F.length (fun d s4 wx => ∃ (i : Nat), s4 = .int .i64 (i : Int) ∧ Aside0 (wx.ownsRow base 9 1 (.slice A F.length c) F.length ((told F m i).map Value.string)) ∧ Aside0 (w.grownBy wx (Value.slice A F.length c).ownBlock) ∧ Aside0 (d = F.length - i) ∧ i ≤ F.length)
 case atStart => exact ⟨0, rfl, ⟨HO.out⟩, ⟨World.grownBy.refl _ _⟩, ⟨rfl⟩, Nat.zero_le _⟩
 case round =>
  obtain ⟨i, rfl, R1, R2, R3, hi⟩ := hrel; by_cases hlt : i < F.length
  ·
   have hd : decide ((i : Int) < (F.length : Int)) = true := decide_eq_true (by omega); obtain ⟨g1, c1, hv⟩ := own_form R1.out (by omega); cases hv
   obtain ⟨y, hy⟩ : ∃ y, ((told F m i).map Value.string)[i]? = some y := ⟨_, List.getElem?_eq_getElem (by rw [List.length_map, told_len F m i hi]; exact hlt)⟩; have k0 := R1.out.cells (g := g1) rfl i y hy; rw [add_plain] at k0; have kf := row_free R1.out i; have kl : g1 < wr.heap.size := World.block_lt_of_cell? _ _ k0; have hst := R1.out.stored i (.string m); rw [told_set F m i hlt] at hst; have S1 := Lib.hid hst.1; have S2 := Lib.hid (R2.out.trans hst.2); clear hst hy R1 R2; go_wp2_with fail; go_roundg (F.length - (i + 1))
   case measure => rw [R3.out]; omega
   case rel => exact ⟨i + 1, (by go_num), ⟨S1.out⟩, ⟨S2.out⟩, ⟨rfl⟩, by omega⟩
  obtain rfl : i = F.length := by omega
  have hd : decide ((F.length : Int) < (F.length : Int)) = false := decide_eq_false (by omega); have h := R1.out; rw [told_all] at h; have H := Lib.hid h; have G := Lib.hid R2.out; clear h R1 R2; go_wp2_with fail; exact ⟨rfl, _, results_none rfl _ _ _, rfl, H.out, G.out⟩
/-- What an append of one text leaves: the cells of other blocks, and the row's own. -/
theorem append_keeps {P : Program} (w : World) (base : Nat) (t ty e : TypeId) (i : TypeInfo) (z : Value) (size bytes : Nat) (ht : P.underlying t = some (.slice e)) (hi : P.info? e = some i) (hz : i.zero = some z)
  (hsize : i.size = size) (hby : i.bytes = bytes) (v : Value) (n : Nat) (xs : List Value) (hown : w.ownsRow base e size v n xs)
  (a : Addr) (c : Nat) (news : List Value) (hl : news.length = 1 * size) (hnews : ∀ j u, news[j]? = some u → w.cell? (a.add j) = some u) (h1 : ∀ u ∈ news, u.oneCell' = true)
  (h63 : n + 1 ≤ maxLen) (hbytes : ((n + 1) + (n + 1) / 4 + 192) * bytes ≤ 281474976710656) (v' : Value) (w' : World)
  (hr : (Builtin.append_ #[t, t] ty #[v, .slice (some a) 1 c]).run P w = .ok v' w') :
  ∀ b j u, w.cell? ⟨b, j, none⟩ = some u → (some b ≠ v.ownBlock ∨ j < n * size) → w'.cell? ⟨b, j, none⟩ = some u := by
 subst hsize; subst hby
 intro b j u hc hbj; have hsmall : n + 1 ≤ 9223372036854775807 := by simp only [maxLen] at h63; omega
 have hdr : ∀ o, (w.drew.alloc o).cell? ⟨b, j, none⟩ = some u := fun o => pw_cell_below (below_alloc (below_drew (Below.refl w.heap.size w)) o) hc
 rcases hown.2 with ⟨rfl, rfl⟩ | ⟨g, cap, cur, rfl, hbg, hg, hnc, hcm, hcs, htake⟩
 ·
  have h := run_append_nil (P := P) w t ty e i z ht hi hz a 1 c news hl hnews (by omega) (by omega) (by omega); rw [h] at hr; cases hr
  exact hdr _
 by_cases hroom : n + 1 ≤ cap
 ·
  have hfit : n * i.size + news.length ≤ cur.size := by rw [hl, hcs, ← Nat.add_mul]; exact Nat.mul_le_mul_right _ hroom
  have h := run_append_room (P := P) w t ty e i ht hi g n cap cur hg a 1 c news hl hnews h1 hroom hfit; rw [h] at hr; cases hr
  by_cases hb : b = g
  ·
   subst hb; have hj : j < n * i.size := by
    rcases hbj with h | h
    · exact absurd rfl h
    exact h
   rw [cell_setRow_same w b j cur _ e (0, 0) hg]; have hcj : cur[j]? = some u := (blk_cell hg j).symm.trans hc; rw [List.getElem?_toArray, List.append_assoc, List.getElem?_append_left (by rw [List.length_take, Array.length_toList]; omega), List.getElem?_take, if_pos hj, Array.getElem?_toList]; exact hcj
  rw [cell_setRow_other w g _ ⟨b, j, none⟩ hb]; exact hc
 have holds : ∀ j u, xs[j]? = some u → w.cell? ((⟨g, 0, none⟩ : Addr).add j) = some u := hown.cells (g := g) rfl; have h := run_append_grow (P := P) w t ty e i z ht hi hz ⟨g, 0, none⟩ n cap xs hown.1 holds a 1 c news hl hnews (by omega) (by omega) (growslice_fits_wide (by omega) hbytes); rw [h] at hr; cases hr
 exact hdr _
section
variable {P : Program} {ops : Array Oper} {rest : List Oper} {o : Oper} {a : Act} {Q : Exit → Act → World → Prop}
/-- As append_cells, with all that stays. -/
theorem append_cells_k {W : World} (base : Nat) (hgd : o.guard = none) (s x : Operand) (t e : TypeId) (z : Value) (size bytes : Nat)
  (ho : o.op = .call { callee := .builtin .append, args := #[s, x], argTypes := #[t, t] })
  (ht : P.underlying t = some (.slice e)) (hinfo : (P.info? e).map (fun i => (i.zero, i.size, i.bytes)) = some (some z, size, bytes)) (hz : z.cells.size = size) (hs0 : 0 < size) (hb0 : 0 < bytes)
  (v : Value) (n : Nat) (xs ys : List Value) (hs : a.eval s = v) (hx : a.eval x = .slice (some ⟨W.heap.size, 0, none⟩) 1 1) (hys : ys.length = size) (h1 : ∀ u ∈ ys, u.oneCell' = true)
  (hown : W.ownsRow base e size v n xs) (hbase : base ≤ W.heap.size) (hl : ((n + 1) + (n + 1) / 4 + 192) * bytes ≤ 281474976710656)
  (h : ∀ v1 w1, w1.ownsRow base e size v1 (n + 1) (xs ++ ys) → Below base W w1 → W.grownBy w1 v.ownBlock → (v1.ownBlock = v.ownBlock ∨ ∃ b, v1.ownBlock = some b ∧ W.heap.size ≤ b) →
   (∀ b j u, W.cell? ⟨b, j, none⟩ = some u → (some b ≠ v.ownBlock ∨ j < n * size) → w1.cell? ⟨b, j, none⟩ = some u) → wpList P ops Q rest (a.put o.dst v1) w1) :
  wpList P ops Q (o :: rest) a (W.alloc (.cells ys.toArray e)) := by
 obtain ⟨i0, hi, hzz⟩ := Option.map_eq_some_iff.1 hinfo; simp only [Prod.mk.injEq] at hzz; obtain ⟨hz0, hz1, hz2⟩ := hzz; have hlen : (n + 1) + (n + 1) / 4 + 192 ≤ 281474976710656 := Nat.le_trans (Nat.le_mul_of_pos_right _ hb0) hl; have hm : n + 1 ≤ maxLen := by simp only [maxLen]; omega
 have hnews : ∀ (j : Nat) (u : Value), ys[j]? = some u → (W.alloc (.cells ys.toArray e)).cell? ((⟨W.heap.size, 0, none⟩ : Addr).add j) = some u := by
  simpa using World.news_of_block (cs := ys.toArray) (t := e) (fr := (0, 0)) (heap_alloc_new W (.cells ys.toArray e))
 obtain ⟨v1, w1, hr, ho1, hg, _⟩ := run_append_own_wide (P := P) (W.alloc (.cells ys.toArray e)) base t o.type e i0 z size bytes ht hi hz0 hz1 hz2 hz hs0 v n xs (hown.alloc _) ⟨W.heap.size, 0, none⟩ 1 1 ys (by rw [hys]; simp) hnews h1 hm hl (by simp; omega); have hat := append_where (P := P) (W.alloc (.cells ys.toArray e)) base t o.type e i0 z size bytes ht hi hz0 hz1 hz2 v n xs (hown.alloc _) ⟨W.heap.size, 0, none⟩ 1 ys (by rw [hys]; simp) hnews h1 hm hl v1 w1 hr; have hk := append_keeps (P := P) (W.alloc (.cells ys.toArray e)) base t o.type e i0 z size bytes ht hi hz0 hz1 hz2 v n xs (hown.alloc _) ⟨W.heap.size, 0, none⟩ 1 ys (by rw [hys]; simp) hnews h1 hm hl v1 w1 hr; refine wpList_plain hgd fun K hK => ?_
 unfold Oper.wp execOp; simp only [ho, resolve, invoke, builtin, Sem.run_bind, Sem.run_pure, Result.andThen_ok, List.map_toArray, List.map_cons, List.map_nil, hs, hx, hr]; refine hK _ _ (h v1 w1 ho1 (((Below.refl base W).alloc hbase _).grown hg (by simp; omega) (own_base hown)) (World.grownBy.trans (World.grownBy_alloc W _ _) hg) ?_ fun b j u hc hbj => hk b j u (pw_cell_below (below_alloc (Below.refl _ _) _) hc) hbj); rcases hat with hat | hat
 · exact .inl hat
 exact .inr ⟨_, hat, by simp⟩
end
end Go.Proofs.YtmbacdkpgfbclaaGreatDoor
namespace Go.Proofs.YtmbacdkpgfbclaaGreatDoor
open Go.RowKit Go.Proofs.YtmbacdkpgfbclaaGreatDoorW.PrintWords Go.Proofs.YtmbacdkpgfbclaaGreatDoorW.PrintLast Heap
set_option linter.unusedVariables false
set_option linter.unusedSimpArgs false
section
variable {P : Program} {ops : Array Oper} {rest : List Oper} {o : Oper} {a : Act} {Q : Exit → Act → World → Prop}
theorem sr_news {w : World} {ad : Addr} {F : List ByteArray} (h : SR w (some ad) F) : ∀ j u, (F.map Value.string)[j]? = some u → w.cell? (ad.add j) = some u := by
 intro j u hj; have hlt : j < F.length := by
  have := (List.getElem?_eq_some_iff.1 hj).1; rwa [List.length_map] at this
 obtain ⟨ad', hA, c0⟩ := h j hlt; obtain rfl := Option.some.inj hA; rw [List.getElem?_map, g_get' F j hlt] at hj; obtain rfl := Option.some.inj hj; exact c0
/-- A list of texts that came in, put behind an empty one. -/
theorem append_texts {W : World} (base : Nat) (hgd : o.guard = none) (s x : Operand) (t e : TypeId) (z : Value) (size bytes : Nat)
  (ho : o.op = .call { callee := .builtin .append, args := #[s, x], argTypes := #[t, t] })
  (ht : P.underlying t = some (.slice e)) (hinfo : (P.info? e).map (fun i => (i.zero, i.size, i.bytes)) = some (some z, size, bytes)) (hz : z.cells.size = size) (hs3 : size = 1) (hb0 : bytes = 16)
  (A : Option Addr) (c : Nat) (F : List ByteArray) (hs : a.eval s = .slice (some ⟨W.heap.size, 0, none⟩) 0 0) (hx : a.eval x = .slice A F.length c) (hv : SR W A F) (hbase : base ≤ W.heap.size) (hl : F.length < 4398046511104)
  (h : ∀ v1 w1, w1.ownsRow base e 1 v1 F.length (F.map Value.string) → Below W.heap.size W w1 → wpList P ops Q rest (a.put o.dst v1) w1) :
  wpList P ops Q (o :: rest) a (W.alloc (.cells #[] e)) := by
 obtain ⟨i0, hi, hzz⟩ := Option.map_eq_some_iff.1 hinfo; simp only [Prod.mk.injEq] at hzz; obtain ⟨hz0, hz1, hz2⟩ := hzz; subst hs3 hb0; have hb : Below W.heap.size W (W.alloc (.cells #[] e)) := below_alloc (Below.refl _ _) _; have hown := lit_empty W e 1 (B := base) hbase; by_cases h0 : F.length = 0
 ·
  obtain rfl : F = [] := List.eq_nil_of_length_eq_zero h0; have hsrc : Src P i0.size t (.slice A 0 c) 0 [] (W.alloc (.cells #[] e)) := by
   cases A with
   | none => exact Src.ofNil _ ht c
   | some ad => exact Src.ofSlice _ ht ad 0 c [] (by simp) (fun j u hj => by simp at hj) (fun u hu => by cases hu)
  have hrun := run_append_nothing (P := P) (W.alloc (.cells #[] e)) t t o.type e i0 ht hi (some ⟨W.heap.size, 0, none⟩) 0 0 (Nat.le_refl _) _ hsrc; refine wpList_plain hgd fun K hK' => ?_
  unfold Oper.wp; have hx' : a.eval x = .slice A 0 c := hx; simp [execOp, ho, resolve, invoke, builtin, hs, hx', hrun, Result.andThen]; exact hK' _ _ (h _ _ hown hb)
 obtain ⟨ad, hA, -⟩ := hv 0 (by omega); subst hA; refine wpList_append_own_at (W.alloc (.cells #[] e)) hgd s x t ho base e i0 z 1 16 ht hi hz0 hz1 hz2 hz (by decide) _ 0 [] hs hown ad F.length c (F.map Value.string) hx (by simp) (sr_news (hv.below hb)) (by intro u hu; obtain ⟨y, _, rfl⟩ := List.mem_map.1 hu; rfl) (by simp only [maxLen]; omega) (by omega) (by simp; omega) ?_; intro v1 w1 ho1 hg _ _; rw [Nat.zero_add, List.nil_append] at ho1; refine h v1 w1 ho1 ?_; exact hb.grown hg (by simp) (own_base (lit_empty W e 1 (Nat.le_refl _)))
end
/-- Two rows do not share a block. -/
def Apart (u v : Value) : Prop := u.ownBlock = none ∨ u.ownBlock ≠ v.ownBlock
/-- A row's block lies from lo up to hi. -/
def In (v : Value) (lo hi : Nat) : Prop := ∀ b, v.ownBlock = some b → lo ≤ b ∧ b < hi
theorem in_own {w : World} {base n : Nat} {e : TypeId} {size : Nat} {v : Value} {xs : List Value} (h : w.ownsRow base e size v n xs) : In v base w.heap.size := fun b hb => h.lt b hb
theorem apart_in {u v : Value} {a b c d : Nat} (h1 : In u a b) (h2 : In v c d) (h : b ≤ c ∨ d ≤ a) : Apart u v := by
 cases hu : u.ownBlock with
 | none => exact .inl hu
 | some x =>
  refine .inr fun e => ?_
  rw [hu] at e; have e1 := h1 x hu; have e2 := h2 x e.symm; omega
/-- What adding to one row leaves: the cells of all other blocks, and the row's own first n. -/
def Kp (w0 : World) (blk : Option Nat) (n : Nat) (wx : World) : Prop := ∀ b j u, w0.cell? ⟨b, j, none⟩ = some u → (some b ≠ blk ∨ j < n) → wx.cell? ⟨b, j, none⟩ = some u
theorem grown_more {w0 wx w1 : World} {blk gb : Option Nat} (h : w0.grownBy wx blk) (k : wx.grownBy w1 gb) (hg : gb = blk ∨ ∃ b, gb = some b ∧ w0.heap.size ≤ b) : w0.grownBy w1 blk := by
 refine ⟨k.os.trans h.os, k.tape.trans h.tape, k.output.trans h.output, Nat.le_trans h.size k.size, fun j hj hne => ?_⟩; refine (k.block j (Nat.lt_of_lt_of_le hj h.size) ?_).trans (h.block j hj hne); rcases hg with rfl | ⟨b, rfl, hb⟩
 · exact hne
 intro e; injection e with e; omega
theorem kp_more {w0 wx w1 : World} {blk gb : Option Nat} {n m : Nat} (h : Kp w0 blk n wx) (hk : ∀ b j u, wx.cell? ⟨b, j, none⟩ = some u → (some b ≠ gb ∨ j < m) → w1.cell? ⟨b, j, none⟩ = some u) (hg : gb = blk ∨ ∃ b, gb = some b ∧ w0.heap.size ≤ b) (hm : n ≤ m) : Kp w0 blk n w1 := by
 intro b j u hc hbj; refine hk b j u (h b j u hc hbj) ?_; rcases hg with rfl | ⟨x, rfl, hx⟩
 ·
  rcases hbj with h | h
  · exact .inl h
  exact .inr (by omega)
 have := World.block_lt_of_cell? _ _ hc; have hb : b < w0.heap.size := this; exact .inl (by intro e; injection e with e; omega)
/-- Six things by their number. -/
def pick {α : Type} (a b c d x y : α) : Nat → α
 | 0 => a | 1 => b | 2 => c | 3 => d | 4 => x | _ => y
/-- What the rows hold once i of them have been told. -/
def tolds (F : Nat → List ByteArray) (M : Nat → ByteArray) (i k : Nat) : List ByteArray := if k < i then List.replicate (F k).length (M k) else F k
def Rows6 (base : Nat) (V : Nat → Value) (F : Nat → List ByteArray) (M : Nat → ByteArray) (i : Nat) (w : World) : Prop := ∀ k, k < 6 → w.ownsRow base 9 1 (V k) (F k).length ((tolds F M i k).map Value.string)
def Apart6 (V : Nat → Value) : Prop := ∀ j k, j < 6 → k < 6 → j ≠ k → Apart (V j) (V k)
theorem rows_tell {base : Nat} {V : Nat → Value} {F : Nat → List ByteArray} {M : Nat → ByteArray} {i : Nat} {w w' : World} (h : Rows6 base V F M i w) (ha : Apart6 V) (hi : i < 6) (ho : w'.ownsRow base 9 1 (V i) (F i).length ((List.replicate (F i).length (M i)).map Value.string)) (hg : w.grownBy w' (V i).ownBlock) :
  Rows6 base V F M (i + 1) w' := by
 intro k hk; by_cases e : k = i
 · subst e; rw [show tolds F M (k + 1) k = List.replicate (F k).length (M k) from if_pos (Nat.lt_succ_self k)]; exact ho
 have e2 : tolds F M (i + 1) k = tolds F M i k := by
  unfold tolds; by_cases h1 : k < i
  · rw [if_pos h1, if_pos (by omega)]
  rw [if_neg h1, if_neg (by omega)]
 rw [e2]; exact own_other (h k hk) hg (ha k i hk hi e)
theorem four_get {α : Type} (V : Nat → α) (i : Nat) (hi : i < 4) : (#[V 0, V 1, V 2, V 3] : Array α)[i]? = some (V i) := by
 rcases i with _ | _ | _ | _ | i
 · rfl
 · rfl
 · rfl
 · rfl
 omega
/-- What the first loop's round reads. -/
def SM (lb mb i : Nat) (v : Value) (m : ByteArray) (u : World) : Prop := u.cell? ⟨lb, i, none⟩ = some v ∧ u.cell? ⟨mb, i, none⟩ = some (.string m)
theorem sM {lb mb i : Nat} {V : Nat → Value} {M : Nat → ByteArray} {u : World} (hi : i < 4) (h1 : u.heap[lb]? = some (.cells #[V 0, V 1, V 2, V 3] 57 (0, 0))) (h2 : u.heap[mb]? = some (.cells #[.string (M 0), .string (M 1), .string (M 2), .string (M 3)] 9 (0, 0))) : SM lb mb i (V i) (M i) u :=
 ⟨(blk_cell h1 i).trans (four_get V i hi), (blk_cell h2 i).trans (four_get (fun k => Value.string (M k)) i hi)⟩
/-- List k and the grown list hold k's mark. -/
def DoneK (V : Nat → Value) (F : Nat → List ByteArray) (M : Nat → ByteArray) (k : Nat) (gv : Value) (w : World) : Prop :=
 (∃ g c, gv = .slice (some ⟨g, 0, none⟩) ((F k).length + 16) c ∧ ∀ j, j < (F k).length + 16 → w.cell? ⟨g, j, none⟩ = some (.string (M k))) ∧
  ∀ b, (V k).ownBlock = some b → ∀ j, j < (F k).length → w.cell? ⟨b, j, none⟩ = some (.string (M k))
/-- It is not touched any more. -/
def Free (V : Nat → Value) (gb k : Nat) (gv : Value) : Prop := gv.ownBlock ≠ some gb ∧ ∀ k', k < k' → k' < 6 → Apart gv (V k')
theorem apart_ne {u v : Value} {g : Nat} (h : Apart u v) (hu : u.ownBlock = some g) : some g ≠ v.ownBlock := by
 rcases h with h | h
 · rw [hu] at h; cases h
 rw [← hu]; exact h
theorem doneK_kp {V : Nat → Value} {F : Nat → List ByteArray} {M : Nat → ByteArray} {k i n : Nat} {gv : Value} {w0 wx : World} (h : DoneK V F M k gv w0) (hg : Apart gv (V i)) (hv : Apart (V k) (V i)) (hk : Kp w0 (V i).ownBlock n wx) : DoneK V F M k gv wx := by
 obtain ⟨⟨g, c, rfl, hc⟩, hb⟩ := h; refine ⟨⟨g, c, rfl, fun j hj => hk _ _ _ (hc j hj) (.inl (apart_ne hg rfl))⟩, fun b he j hj => hk _ _ _ (hb b he j hj) (.inl (apart_ne hv he))⟩
theorem cell_far {w : World} {b j g i : Nat} {u x : Value} (h : w.cell? ⟨b, j, none⟩ = some u) (hne : b ≠ g) : (w.setCell ⟨g, i, none⟩ x).cell? ⟨b, j, none⟩ = some u :=
 (World.cell?_of_block (a := ⟨b, j, none⟩) (Below.heap_setCell w ⟨g, i, none⟩ x b hne)).trans h
theorem doneK_set {V : Nat → Value} {F : Nat → List ByteArray} {M : Nat → ByteArray} {k gb j : Nat} {gv x : Value} {w : World} (h : DoneK V F M k gv w) (hg : gv.ownBlock ≠ some gb) (hv : (V k).ownBlock ≠ some gb) : DoneK V F M k gv (w.setCell ⟨gb, j, none⟩ x) := by
 obtain ⟨⟨g, c, rfl, hc⟩, hb⟩ := h; refine ⟨⟨g, c, rfl, fun j hj => cell_far (hc j hj) (fun e => hg (by rw [← e]; rfl))⟩, fun b he j hj => cell_far (hb b he j hj) (fun e => hv (by rw [← e]; exact he))⟩
theorem row_marks {w : World} {base n g c : Nat} {m : ByteArray} {e : TypeId} (h : w.ownsRow base e 1 (.slice (some ⟨g, 0, none⟩) n c) n ((List.replicate n m).map Value.string)) (j : Nat) (hj : j < n) : w.cell? ⟨g, j, none⟩ = some (.string m) := by
 have hc := h.cells (g := g) rfl j (.string m) (by rw [List.getElem?_map, List.getElem?_replicate, if_pos hj]; rfl); rw [add_plain] at hc; exact hc
theorem doneK_new {V : Nat → Value} {F : Nat → List ByteArray} {M : Nat → ByteArray} {i base : Nat} {gv : Value} {w0 wx : World} (ho : wx.ownsRow base 9 1 gv ((F i).length + 16) ((List.replicate ((F i).length + 16) (M i)).map Value.string))
  (h0 : w0.ownsRow base 9 1 (V i) (F i).length ((List.replicate (F i).length (M i)).map Value.string)) (hk : Kp w0 (V i).ownBlock (F i).length wx) : DoneK V F M i gv wx := by
 obtain ⟨g, c, rfl⟩ := own_form ho (by omega); refine ⟨⟨g, c, rfl, fun j hj => row_marks ho j hj⟩, fun b hb j hj => ?_⟩; obtain ⟨g0, c0, e0⟩ := own_form h0 (by omega); rw [e0] at h0 hb; obtain rfl : g0 = b := Option.some.inj hb; exact hk _ _ _ (row_marks h0 j hj) (.inr hj)
/-- What holds once i lists have grown. -/
structure Grew (base : Nat) (V : Nat → Value) (F : Nat → List ByteArray) (M : Nat → ByteArray) (gb i : Nat) (G : Nat → Value) (gs : Array Value) (w : World) : Prop where
 rows : ∀ k, i ≤ k → k < 6 → w.ownsRow base 9 1 (V k) (F k).length ((tolds F M 4 k).map Value.string)
 done : ∀ k, k < i → DoneK V F M k (G k) w
 free : ∀ k, k < i → Free V gb k (G k)
 blk : w.heap[gb]? = some (.cells gs 57 (0, 0))
 size : gs.size = 4
 at_ : ∀ k, k < i → gs[k]? = some (G k)
theorem grew_next {base : Nat} {V : Nat → Value} {F : Nat → List ByteArray} {M : Nat → ByteArray} {gb i lb : Nat} {G : Nat → Value} {gs : Array Value} {w0 wx : World} {gv : Value} (h : Grew base V F M gb i G gs w0) (ha : Apart6 V) (hi : i < 4) (hgb : lb + 2 ≤ gb) (hnb : ∀ k, k < 6 → ∀ b, (V k).ownBlock = some b → b < lb) (hgw : gb < w0.heap.size)
  (ho : wx.ownsRow base 9 1 gv ((F i).length + 16) ((List.replicate ((F i).length + 16) (M i)).map Value.string)) (hw : gv.ownBlock = (V i).ownBlock ∨ ∃ b, gv.ownBlock = some b ∧ w0.heap.size ≤ b) (hKp : Kp w0 (V i).ownBlock (F i).length wx) (hg : w0.grownBy wx (V i).ownBlock) :
  Grew base V F M gb (i + 1) (fun k => if k = i then gv else G k) (gs.setIfInBounds i gv) (wx.setCell ⟨gb, i, none⟩ gv) := by
 have hvb : ∀ k, k < 6 → (V k).ownBlock ≠ some gb := fun k hk e => by have := hnb k hk gb e; omega
 have hgn : gv.ownBlock ≠ some gb := by
  rcases hw with e | ⟨b, e, hb⟩
  · rw [e]; exact hvb i (by omega)
  rw [e]; intro e2; injection e2 with e2; omega
 have h0 := h.rows i (Nat.le_refl _) (by omega); rw [show tolds F M 4 i = List.replicate (F i).length (M i) from if_pos hi] at h0; have hblk := blk_grown h.blk hg (fun e => hvb i (by omega) e.symm); refine ⟨fun k hk h6 => ?_, fun k hk => ?_, fun k hk => ?_, blk_set hblk i gv, by simp [h.size], fun k hk => ?_⟩
 · exact own_setCell (own_other (h.rows k (by omega) h6) hg (ha k i h6 (by omega) (by omega))) (p := ⟨gb, i, none⟩) (fun e => hvb k h6 e.symm) _
 ·
  by_cases e : k = i
  · subst e; rw [if_pos rfl]; exact doneK_set (doneK_new ho h0 hKp) hgn (hvb k (by omega))
  rw [if_neg e]; have hkl : k < i := by omega
  exact doneK_set (doneK_kp (h.done k hkl) ((h.free k hkl).2 i hkl (by omega)) (ha k i (by omega) (by omega) e) hKp) (h.free k hkl).1 (hvb k (by omega))
 ·
  by_cases e : k = i
  ·
   subst e; rw [if_pos rfl]; refine ⟨hgn, fun k' h1 h6 => ?_⟩; rcases hw with e | ⟨b, e, hb⟩
   ·
    rcases ha k k' (by omega) h6 (by omega) with h | h
    · exact .inl (e.trans h)
    exact .inr (by rw [e]; exact h)
   refine .inr fun e2 => ?_
   have := hnb k' h6 b (by rw [← e2, e]); omega
  rw [if_neg e]; exact h.free k (by omega)
 rw [Array.getElem?_setIfInBounds]; by_cases e : k = i
 · subst e; rw [if_pos rfl, if_pos (by rw [h.size]; exact hi), if_pos rfl]
 rw [if_neg (fun h => e h.symm), if_neg e]; exact h.at_ k (by omega)
end Go.Proofs.YtmbacdkpgfbclaaGreatDoor
namespace Go.Proofs.YtmbacdkpgfbclaaGreatDoor
open Go.RowKit Go.Proofs.YtmbacdkpgfbclaaGreatDoorW.PrintWords Go.Proofs.YtmbacdkpgfbclaaGreatDoorW.PrintLast Heap
set_option linter.unusedVariables false
set_option linter.unusedSimpArgs false
theorem fieldsG_len (s : ByteArray) (E : Nat) (l : List (Nat × Nat)) : (fieldsG s E l).length ≤ 32768 := by
 unfold fieldsG; split
 · rename_i h; rw [List.length_map]; omega
 simp; omega
theorem Fields_len (s fs : ByteArray) : (fieldsOf s fs).length ≤ 65537 := by
 have h := fun E l => fieldsG_len s E l
 unfold fieldsOf; split
 · simp
 split
 · exact Nat.le_trans (h _ _) (by omega)
 split <;> exact Nat.le_trans (h _ _) (by omega)
theorem paraF_len : ∀ (f : Nat) (t : ByteArray), (paraF f t).length ≤ f
 | 0, _ => Nat.le_refl _
 | f + 1, t => by
  unfold paraF
  split
  ·
   simp
  ·
   split
   ·
    simp
   ·
    have := paraF_len f (trimL (t.extract (nn t).toNat t.size))
    simp only [List.length_cons]
    omega
theorem lines_len (s fs : ByteArray) (h : s.size ≤ 65536) : (linesA s fs).length ≤ 65537 := by
 unfold linesA; split
 · have := paraF_len (s.size + 1) (trimN s); omega
 rename_i h0; have h1 := cuts_few s fs (by omega) 0 (Nat.zero_le _); unfold linesOf linesL; rw [List.length_map]; have h2 := (List.takeWhile_sublist (l := cutsFrom s fs 0) (fun p => !endL s p)).length_le; omega
theorem infoL : (Tryz.prog.info? 57).map (fun i => (i.zero, i.size, i.bytes)) = some (some (.slice none 0 0), 1, 24) := by kernel_rfl
def Mk : Nat → ByteArray := pick ⟨#[109, 97, 114, 107, 32, 49]⟩ ⟨#[109, 97, 114, 107, 32, 50]⟩ ⟨#[109, 97, 114, 107, 32, 51]⟩ ⟨#[109, 97, 114, 107, 32, 52]⟩ ⟨#[]⟩ ⟨#[]⟩
set_option maxRecDepth 100000 in
set_option maxHeartbeats 8000000 in
theorem RecordLists_walk (s sep : ByteArray) (w : World) (HG : GM w) :
  Calls Tryz.prog 6 #[.string s, .string sep] w fun e w' => e = .returned (.bool true) ∧ Below w.heap.size w w' := by
 by_cases hbig : 65536 < s.size
 · have hd : decide ((s.size : Int) > 65536) = true := decide_eq_true (by omega); have hd2 : decide ((65536 : Int) < (s.size : Int)) = true := decide_eq_true (by omega); have hd3 : decide (65536 < s.size) = true := decide_eq_true (by omega); go_enter Tryz.func6, Tryz.ntmps6; go_wp2_with fail; refine (awake_walk w HG).mono ?_; rintro e w1 ⟨rfl, hb1⟩; have B1 := Lib.hid hb1; clear hb1; go_wp2_with fail; go_ret; exact ⟨rfl, B1.out⟩
 have hsm : s.size ≤ 65536 := by omega
 have hs4 : s.size < 4294967281 := by omega
 have hd : decide ((s.size : Int) > 65536) = false := decide_eq_false (by omega); have hd2 : decide ((65536 : Int) < (s.size : Int)) = false := decide_eq_false (by omega); have hd3 : decide (65536 < s.size) = false := decide_eq_false (by omega); obtain ⟨La, hLa⟩ : ∃ La, La = linesA s sep := ⟨_, rfl⟩; obtain ⟨Fb, hFb⟩ : ∃ Fb, Fb = fieldsOf s sep := ⟨_, rfl⟩; have hl1 : La.length ≤ 65537 := by rw [hLa]; exact lines_len s sep hsm
 have hl2 : Fb.length ≤ 65537 := by rw [hFb]; exact Fields_len s sep
 have HL : Hid (∀ u : World, GM u → Calls Tryz.prog 39 #[.string s, .string sep] u fun e w' => ∃ v, e = .returned v ∧ w'.ownsRow u.heap.size 9 1 v La.length (La.map Value.string) ∧ Below u.heap.size u w') := Lib.hid fun u hu => by rw [hLa]; exact LinesA_walk s sep hs4 u hu
 have HF : Hid (∀ u : World, GM u → Calls Tryz.prog 40 #[.string s, .string sep] u fun e w' => ∃ v, e = .returned v ∧ w'.ownsRow u.heap.size 9 1 v Fb.length (Fb.map Value.string) ∧ Below u.heap.size u w') := Lib.hid fun u hu => by rw [hFb]; exact Fields_walk s sep hs4 u hu
 clear hLa hFb hbig; go_enter Tryz.func6, Tryz.ntmps6; go_wp2_with fail; refine (awake_walk w HG).mono ?_; rintro e w1 ⟨rfl, hb1⟩; have B1 := Lib.hid hb1; clear hb1; go_wp2_with fail; refine (HL.out w1 (HG.below B1.out)).mono ?_; rintro e w2 ⟨v0, rfl, ho2, hb2⟩; have B2 := Lib.hid (B1.out.trans (hb2.mono B1.out.size)); have O0 := Lib.hid (ho2.mono B1.out.size); have I0 := Lib.hid (in_own ho2); have Z1 := Lib.hid hb2.size; clear ho2 hb2; go_wp2_with fail; refine (HL.out w2 (HG.below B2.out)).mono ?_; rintro e w3 ⟨v1, rfl, ho3, hb3⟩; have B3 := Lib.hid (B2.out.trans (hb3.mono B2.out.size)); have O1 := Lib.hid (ho3.mono B2.out.size); have P0 := Lib.hid (pw_own_below O0.out hb3); have I1 := Lib.hid (in_own ho3); have Z2 := Lib.hid hb3.size; clear ho3 hb3 O0; go_wp2_with fail; refine (HF.out w3 (HG.below B3.out)).mono ?_; rintro e w4 ⟨v2, rfl, ho4, hb4⟩; have B4 := Lib.hid (B3.out.trans (hb4.mono B3.out.size)); have O2 := Lib.hid (ho4.mono B3.out.size); have Q0 := Lib.hid (pw_own_below P0.out hb4); have Q1 := Lib.hid (pw_own_below O1.out hb4); have I2 := Lib.hid (in_own ho4); have Z3 := Lib.hid hb4.size; clear ho4 hb4 O1 P0; go_wp2_with fail; refine (HF.out w4 (HG.below B4.out)).mono ?_; rintro e w5 ⟨v3, rfl, ho5, hb5⟩; have B5 := Lib.hid (B4.out.trans (hb5.mono B4.out.size)); have T3 := Lib.hid (ho5.mono B4.out.size); have T0 := Lib.hid (pw_own_below Q0.out hb5); have T1 := Lib.hid (pw_own_below Q1.out hb5); have T2 := Lib.hid (pw_own_below O2.out hb5); have I3 := Lib.hid (in_own ho5); have Z4 := Lib.hid hb5.size; clear ho5 hb5 Q0 Q1 O2; obtain ⟨A0, c0, rfl, hr0⟩ := sr_own T0.out; obtain ⟨A1, c1, rfl, hr1⟩ := sr_own T1.out; obtain ⟨A2, c2, rfl, hr2⟩ := sr_own T2.out; obtain ⟨A3, c3, rfl, hr3⟩ := sr_own T3.out; have S0 := Lib.hid hr0; have S2 := Lib.hid hr2; clear hr0 hr1 hr2 hr3; go_upto_region 10 with fail
 go_upto_region 11 with (first
  | ((with_reducible refine append_texts (W := w5) w5.heap.size rfl (.tmp 39) (.tmp 40) 57 9 (.string ⟨#[]⟩) 1 16 rfl Tryz.underlying57 infoS rfl rfl rfl A0 c0 La rfl rfl ?hv ?hb ?hl ?_); (case hv => exact S0.out); (case hb => exact Nat.le_refl _); (case hl => omega); intro v4 w6 ho6 hb6; (have O4 := Lib.hid ho6); (have B6 := Lib.hid hb6); clear ho6 hb6)
  | fail)
 go_upto_region 12 with (first
  | ((with_reducible refine append_texts (W := w6) w6.heap.size rfl (.tmp 42) (.tmp 43) 57 9 (.string ⟨#[]⟩) 1 16 rfl Tryz.underlying57 infoS rfl rfl rfl A2 c2 Fb rfl rfl ?hv ?hb ?hl ?_); (case hv => exact S2.out.below B6.out); (case hb => exact Nat.le_refl _); (case hl => omega); intro v5 w7 ho7 hb7; (have O5 := Lib.hid ho7); (have B7 := Lib.hid hb7); clear ho7 hb7)
  | fail)
 obtain ⟨A4, c4, rfl, hr4⟩ := sr_own O4.out; obtain ⟨A5, c5, rfl, hr5⟩ := sr_own O5.out; clear hr4 hr5; obtain ⟨V, hV⟩ : ∃ V : Nat → Value, V = pick (.slice A0 La.length c0) (.slice A1 La.length c1) (.slice A2 Fb.length c2) (.slice A3 Fb.length c3) (.slice A4 La.length c4) (.slice A5 Fb.length c5) := ⟨_, rfl⟩; obtain ⟨F, hF⟩ : ∃ F : Nat → List ByteArray, F = pick La La Fb Fb La Fb := ⟨_, rfl⟩; have hsz1 : w.heap.size ≤ w5.heap.size := B5.out.size; have hrows : Rows6 w.heap.size V F Mk 0 w7 := by
  have hb57 : Below w5.heap.size w5 w7 := B6.out.trans (B7.out.mono B6.out.size); intro k hk; have e : tolds F Mk 0 k = F k := if_neg (Nat.not_lt_zero k); rw [e, hV, hF]; rcases k with _ | _ | _ | _ | _ | _ | k
  · exact pw_own_below T0.out hb57
  · exact pw_own_below T1.out hb57
  · exact pw_own_below T2.out hb57
  · exact pw_own_below T3.out hb57
  · exact (pw_own_below O4.out B7.out).mono hsz1
  · exact O5.out.mono (Nat.le_trans hsz1 B6.out.size)
  omega
 have hap : Apart6 V := by
  have i0 := I0.out; have i1 := I1.out; have i2 := I2.out; have i3 := I3.out; have i4 := in_own O4.out; have i5 := in_own O5.out; have z1 := Z1.out; have z2 := Z2.out; have z3 := Z3.out; have z4 := Z4.out; have z6 := B6.out.size; have z7 := B7.out.size; intro j k hj hk hjk; rw [hV]; rcases j with _ | _ | _ | _ | _ | _ | j <;> rcases k with _ | _ | _ | _ | _ | _ | k <;> first
   | exact absurd rfl hjk
   | omega
   | exact apart_in i0 i1 (by omega) | exact apart_in i0 i2 (by omega) | exact apart_in i0 i3 (by omega) | exact apart_in i0 i4 (by omega) | exact apart_in i0 i5 (by omega)
   | exact apart_in i1 i0 (by omega) | exact apart_in i1 i2 (by omega) | exact apart_in i1 i3 (by omega) | exact apart_in i1 i4 (by omega) | exact apart_in i1 i5 (by omega)
   | exact apart_in i2 i0 (by omega) | exact apart_in i2 i1 (by omega) | exact apart_in i2 i3 (by omega) | exact apart_in i2 i4 (by omega) | exact apart_in i2 i5 (by omega)
   | exact apart_in i3 i0 (by omega) | exact apart_in i3 i1 (by omega) | exact apart_in i3 i2 (by omega) | exact apart_in i3 i4 (by omega) | exact apart_in i3 i5 (by omega)
   | exact apart_in i4 i0 (by omega) | exact apart_in i4 i1 (by omega) | exact apart_in i4 i2 (by omega) | exact apart_in i4 i3 (by omega) | exact apart_in i4 i5 (by omega)
   | exact apart_in i5 i0 (by omega) | exact apart_in i5 i1 (by omega) | exact apart_in i5 i2 (by omega) | exact apart_in i5 i3 (by omega) | exact apart_in i5 i4 (by omega)
 have hln : ∀ k, (F k).length ≤ 65537 := by
  intro k; rw [hF]; rcases k with _ | _ | _ | _ | _ | k <;> first | exact hl1 | exact hl2
 have hsh : ∀ k, k < 6 → ∃ A c, V k = .slice A (F k).length c := fun k hk => own_slice (hrows k hk)
 have hB7 : Below w.heap.size w w7 := B5.out.trans ((B6.out.trans (B7.out.mono B6.out.size)).mono hsz1); have hnb : ∀ k, k < 6 → ∀ b, (V k).ownBlock = some b → b < w7.heap.size := fun k hk b hb => (hrows k hk).lt b hb |>.2
 obtain ⟨lb, hlb⟩ : ∃ lb, lb = w7.heap.size := ⟨_, rfl⟩; have eV : (Value.slice A0 La.length c0) = V 0 ∧ (Value.slice A1 La.length c1) = V 1 ∧ (Value.slice A2 Fb.length c2) = V 2 ∧ (Value.slice A3 Fb.length c3) = V 3 ∧ (Value.slice A4 La.length c4) = V 4 ∧ (Value.slice A5 Fb.length c5) = V 5 := by rw [hV]; exact ⟨rfl, rfl, rfl, rfl, rfl, rfl⟩
 have eF : F 4 = La ∧ F 5 = Fb := by rw [hF]; exact ⟨rfl, rfl⟩
 have ROWS := Lib.hid hrows; have AP := Lib.hid hap; have LN := Lib.hid hln; have SH := Lib.hid hsh; have SH2 := Lib.hid (fun k (hk : k < 6) (h : 0 < (F k).length) => (own_form (hrows k hk) h : ∃ g c, V k = .slice (some ⟨g, 0, none⟩) (F k).length c)); have B8 := Lib.hid hB7; have B8s := Lib.hid hB7.size; have NB := Lib.hid hnb; have EV := Lib.hid eV; have EF := Lib.hid eF; have LBE := Lib.hid hlb; clear hrows hap hln hsh hB7 hnb eV eF hV hF hsz1 hlb T0 T1 T2 T3 O4 O5 I0 I1 I2 I3 Z1 Z2 Z3 Z4 B1 B2 B3 B4 B5 B6 B7 S0 S2; go_wp2_with fail; obtain ⟨e0, e1, e2, e3, e4, e5⟩ := EV.out; rw [e0, e1, e2, e3, e4, e5, ← LBE.out]; clear e0 e1 e2 e3 e4 e5; obtain ⟨W8, hW8⟩ : ∃ W8, W8 = (w7.alloc (.cells #[V 0, V 1, V 2, V 3] 57)).alloc (.cells #[.string ⟨#[109, 97, 114, 107, 32, 49]⟩, .string ⟨#[109, 97, 114, 107, 32, 50]⟩, .string ⟨#[109, 97, 114, 107, 32, 51]⟩, .string ⟨#[109, 97, 114, 107, 32, 52]⟩] 9) := ⟨_, rfl⟩; have hb78 : Below w7.heap.size w7 W8 := by rw [hW8]; exact below_alloc (below_alloc (Below.refl _ _) _) _
 have hlb8 : W8.heap[lb]? = some (.cells #[V 0, V 1, V 2, V 3] 57 (0, 0)) := by rw [hW8, LBE.out]; exact blk_below (blk_new _ _) (below_alloc (Below.refl _ _) _)
 have hmb8 : W8.heap[lb + 1]? = some (.cells #[.string (Mk 0), .string (Mk 1), .string (Mk 2), .string (Mk 3)] 9 (0, 0)) := by
  rw [hW8, LBE.out]; have h := blk_new (w7.alloc (.cells #[V 0, V 1, V 2, V 3] 57)) (.cells #[.string ⟨#[109, 97, 114, 107, 32, 49]⟩, .string ⟨#[109, 97, 114, 107, 32, 50]⟩, .string ⟨#[109, 97, 114, 107, 32, 51]⟩, .string ⟨#[109, 97, 114, 107, 32, 52]⟩] 9); rw [World.size_alloc] at h; exact h
 rw [← hW8]; have ROWS8 := Lib.hid (fun k (hk : k < 6) => pw_own_below (ROWS.out k hk) hb78 : Rows6 w.heap.size V F Mk 0 W8); have B9 := Lib.hid (B8.out.trans (hb78.mono B8.out.size)); have LB8 := Lib.hid hlb8; have MB8 := Lib.hid hmb8; have hnl : ∀ k, k < 6 → some lb ≠ (V k).ownBlock ∧ some (lb + 1) ≠ (V k).ownBlock := fun k hk => by
  have hle := LBE.out; constructor
  · intro e; have := NB.out k hk _ e.symm; omega
  intro e; have := NB.out k hk _ e.symm; omega
 have NL := Lib.hid hnl; clear hW8 hb78 hlb8 hmb8 hnl ROWS B8; go_loopg [14] 4 (fun d s14 wx => ∃ (i : Nat), s14 = .int .i64 (i : Int) ∧ Aside0 (Rows6 w.heap.size V F Mk i wx) ∧ Aside0 (wx.heap[lb]? = some (.cells #[V 0, V 1, V 2, V 3] 57 (0, 0))) ∧ Aside0 (wx.heap[lb + 1]? = some (.cells #[.string (Mk 0), .string (Mk 1), .string (Mk 2), .string (Mk 3)] 9 (0, 0))) ∧ Aside0 (Below w.heap.size w wx) ∧ Aside0 (d = 4 - i) ∧ i ≤ 4)
 case atStart => exact ⟨0, rfl, ⟨ROWS8.out⟩, ⟨LB8.out⟩, ⟨MB8.out⟩, ⟨B9.out⟩, ⟨rfl⟩, by omega⟩
 case round =>
  clear ROWS8 LB8 MB8 B9; obtain ⟨i, rfl, R1, R2, R3, R4, R5, hi⟩ := hrel; by_cases hlt : i < 4
  ·
   have hdi : decide ((i : Int) < 4) = true := decide_eq_true (by omega); have hdi2 : decide (i < 4) = true := decide_eq_true hlt; have hi6 : i < 6 := by omega
   have hi4 : (i : Int) < 4 := by omega
   obtain ⟨Vi, hVi⟩ : ∃ Vi, Vi = V i := ⟨_, rfl⟩; obtain ⟨m, hm⟩ : ∃ m, m = Mk i := ⟨_, rfl⟩; have hR := R1.out i hi6; rw [show tolds F Mk i i = F i from if_neg (Nat.lt_irrefl i)] at hR; have hSM := sM hlt R2.out R3.out; rw [← hVi] at hR; rw [← hVi, ← hm] at hSM; have HSM := Lib.hid (sM hlt (blk_below R2.out (below_drew (Below.refl wr.heap.size wr))) (blk_below R3.out (below_drew (Below.refl wr.heap.size wr)))); rw [← hVi, ← hm] at HSM; have HT := Lib.hid (tell_walk (F i) m w.heap.size Vi (Nat.le_trans (LN.out i) (by omega)) wr.drew (pw_own_below hR (below_drew (Below.refl wr.heap.size wr)))); have HVi := Lib.hid hVi; have Hm := Lib.hid hm; clear hR hSM hVi hm; go_upto_region 17 with fail
   refine start_ (n := 9) (S := SM lb (lb + 1) i Vi m) (ds := []) (trn 9 9) (by kernel_rfl) rfl rfl HSM.out (fun hHeld => ?_); obtain ⟨W9, hW9⟩ : ∃ W9, W9 = wr.drew := ⟨_, rfl⟩; rw [← hW9] at hHeld HT ⊢; have HW9 := Lib.hid hW9; clear hW9 HSM; iterate 8
    (refine tkn 9 63 (v := ?_) (a' := ?_) rfl rfl (by kernel_rfl) (fun _ _ _ h => h) (Or.inl ⟨by rfl, ?_⟩) hHeld ?_ ?_; rotate_left; (rintro w' ⟨s0, s1⟩; go_simp; with_reducible rfl); rotate_left; (simp only [Act.put, Nat.reduceSub, List.setIfInBounds_toArray, List.set_cons_zero, List.set_cons_succ, i64_w, i32_w]; rfl))
   refine one_ (i := 8) (N := some 63) (trn 9 0) rfl rfl (by kernel_rfl) (by decide) (fun K hK => ?_); refine goes_ Tryz.func41 (by kernel_rfl) rfl #[Vi, .string m] (by rfl) rfl rfl (by (try simp only [List.map_toArray, List.map_cons, List.map_nil]); first | done | rfl) ?_; refine HT.out.mono ?_; rintro e w10 ⟨rfl, ho10, hg10⟩; refine ⟨_, rfl, ?_⟩; have hwd : Below wr.heap.size wr W9 := by rw [HW9.out]; exact below_drew (Below.refl _ _)
   have hrow9 : Rows6 w.heap.size V F Mk i W9 := fun k hk => pw_own_below (R1.out k hk) hwd
   rw [HVi.out, Hm.out] at ho10; rw [HVi.out] at hg10; have hrow10 := rows_tell hrow9 AP.out hi6 ho10 hg10; have hlb10 := blk_grown (blk_below R2.out hwd) hg10 (NL.out i hi6).1; have hmb10 := blk_grown (blk_below R3.out hwd) hg10 (NL.out i hi6).2; refine hK.out _ _ (by rw [HVi.out, Hm.out]; exact sM hlt hlb10 hmb10) (fun hHeld => ?_); have hb10 : Below w.heap.size w w10 := (R4.out.trans (hwd.mono R4.out.size)).grown hg10 (Nat.le_trans R4.out.size hwd.size) (fun b hb => own_base (hrow9 i hi6) b hb); have N1 := Lib.hid hrow10; have N2 := Lib.hid hlb10; have N3 := Lib.hid hmb10; have N4 := Lib.hid hb10; clear hK K hwd hrow9 ho10 hg10 hrow10 hlb10 hmb10 hb10 R1 R2 R3 R4 HT HW9 HVi Hm hHeld; refine done_ (by kernel_rfl) ?_; go_wp2_with fail; go_roundg (4 - (i + 1))
   case measure => rw [R5.out]; omega
   case rel => exact ⟨i + 1, (by go_num), ⟨N1.out⟩, ⟨N2.out⟩, ⟨N3.out⟩, ⟨N4.out⟩, ⟨rfl⟩, by omega⟩
  obtain rfl : i = 4 := by omega
  have hdi : decide ((4 : Int) < 4) = false := by decide
  have R1' := Lib.hid R1.out; have R2' := Lib.hid R2.out; have R3' := Lib.hid R3.out; have R4' := Lib.hid R4.out; clear R1 R2 R3 R4 R5; obtain ⟨j0, hj0, hjj⟩ := Option.map_eq_some_iff.1 infoL; simp only [Prod.mk.injEq] at hjj; obtain ⟨hj1, hj2, hj3⟩ := hjj; have hmk : ∀ u : World, (Instr.makeSlice 59 (.int .i64 4) (.int .i64 4)).run Tryz.prog u = .ok (.slice (some ⟨u.heap.size, 0, none⟩) 4 4) (u.alloc (.cells #[.slice none 0 0, .slice none 0 0, .slice none 0 0, .slice none 0 0] 57)) := fun u => by
   have h := run_make (P := Tryz.prog) u 59 57 j0 _ Tryz.underlying59 hj0 hj1 .i64 .i64 4 4 (by omega) (by omega) (by rw [hj3]; decide) (by omega); rw [hj2] at h; simp at h; rw [show madeCells (Value.slice none 0 0).cells 4 = #[.slice none 0 0, .slice none 0 0, .slice none 0 0, .slice none 0 0] from by kernel_rfl] at h; exact h
  clear hj0 hj1 hj2 hj3; go_wp2_with fail; obtain ⟨gb, hgb⟩ : ∃ gb, gb = wr.heap.size := ⟨_, rfl⟩; obtain ⟨W12, hW12⟩ : ∃ W12, W12 = wr.alloc (.cells #[.slice none 0 0, .slice none 0 0, .slice none 0 0, .slice none 0 0] 57) := ⟨_, rfl⟩; have hb12 : Below wr.heap.size wr W12 := by rw [hW12]; exact below_alloc (Below.refl _ _) _
  have hgblk : W12.heap[gb]? = some (.cells #[.slice none 0 0, .slice none 0 0, .slice none 0 0, .slice none 0 0] 57 (0, 0)) := by rw [hW12, hgb]; exact blk_new _ _
  have hgbl : lb + 2 ≤ gb := by
   have := blk_lt R3'.out; omega
  have hgrew : Grew w.heap.size V F Mk gb 0 (fun _ => .nilFunc) #[.slice none 0 0, .slice none 0 0, .slice none 0 0, .slice none 0 0] W12 :=
   ⟨fun k _ h6 => pw_own_below (R1'.out k h6) hb12, fun k hk => absurd hk (Nat.not_lt_zero k), fun k hk => absurd hk (Nat.not_lt_zero k), hgblk, rfl, fun k hk => absurd hk (Nat.not_lt_zero k)⟩
  rw [← hgb, ← hW12]; have GR := Lib.hid hgrew; have GL := Lib.hid (blk_below R2'.out hb12); have GM' := Lib.hid (blk_below R3'.out hb12); have GB := Lib.hid (R4'.out.trans (hb12.mono R4'.out.size)); have HGB := Lib.hid hgbl; have hnb := Lib.hid (fun k (h6 : k < 6) b hb => (by have := NB.out k h6 b hb; have := LBE.out; omega : b < lb)); clear hgb hW12 hb12 hgblk hgbl hgrew R1' R2' R3' R4' hmk; go_loopg [16, 17, 18] 4 (fun d s16 s17 s18 wx => ∃ (i : Nat) (G : Nat → Value) (gs : Array Value), s16 = .int .i64 (i : Int) ∧ Aside0 (Grew w.heap.size V F Mk gb i G gs wx) ∧ Aside0 (wx.heap[lb]? = some (.cells #[V 0, V 1, V 2, V 3] 57 (0, 0))) ∧ Aside0 (wx.heap[lb + 1]? = some (.cells #[.string (Mk 0), .string (Mk 1), .string (Mk 2), .string (Mk 3)] 9 (0, 0))) ∧ Aside0 (Below w.heap.size w wx) ∧ Aside0 (d = 4 - i) ∧ i ≤ 4)
  case atStart => exact ⟨0, _, _, rfl, ⟨GR.out⟩, ⟨GL.out⟩, ⟨GM'.out⟩, ⟨GB.out⟩, ⟨rfl⟩, by omega⟩
  case round =>
   clear GR GL GM' GB; obtain ⟨i, G, gs, rfl, R1, R2, R3, R4, R5, hi⟩ := hrel; by_cases hlt : i < 4
   ·
    have hdi : decide ((i : Int) < 4) = true := decide_eq_true (by omega); have hdi2 : decide (i < 4) = true := decide_eq_true hlt; have hi6 : i < 6 := by omega
    have hi4 : (i : Int) < 4 := by omega
    have h0 := R1.out.rows i (Nat.le_refl _) hi6; rw [show tolds F Mk 4 i = List.replicate (F i).length (Mk i) from if_pos hlt] at h0; obtain ⟨n, hn⟩ : ∃ n, n = (F i).length := ⟨_, rfl⟩; have hnl : n ≤ 65537 := by rw [hn]; exact LN.out i
    obtain ⟨Vi, hVi⟩ : ∃ Vi, Vi = V i := ⟨_, rfl⟩; obtain ⟨m, hm⟩ : ∃ m, m = Mk i := ⟨_, rfl⟩; have k0 : wr.cell? ⟨lb, i, none⟩ = some Vi := by rw [hVi]; exact (sM hlt R2.out R3.out).1
    have k1 : wr.cell? ⟨lb + 1, i, none⟩ = some (.string m) := by rw [hm]; exact (sM hlt R2.out R3.out).2
    have HO := Lib.hid h0; have HVi := Lib.hid hVi; have Hm := Lib.hid hm; have Hn := Lib.hid hn; clear h0 hVi hm hn; go_wp2_with fail; obtain ⟨w0, hw0⟩ : ∃ w0 : World, w0 = wr := ⟨_, rfl⟩; have HW0 := Lib.hid hw0; have hgr := R1.out; have hl0 := R2.out; have hm0 := R3.out; have hb0 := R4.out; rw [← hw0] at hgr hl0 hm0 hb0; have W0 := Lib.hid hgr; have L0 := Lib.hid hl0; have M0 := Lib.hid hm0; have B0 := Lib.hid hb0; have HO' := HO.out; rw [← hw0, ← HVi.out, ← Hm.out, ← Hn.out] at HO'; have HO2 := Lib.hid HO'; have D5 := R5; clear hgr hl0 hm0 hb0 HO HO' k0 k1 R1 R2 R3 R4 R5; go_loopg [17, 18] 16 (fun d s17 s18 wx => ∃ (t : Nat), s18 = .int .i64 (t : Int) ∧ Aside0 (wx.ownsRow w.heap.size 9 1 s17 (n + t) ((List.replicate (n + t) m).map Value.string)) ∧ Aside0 (s17.ownBlock = Vi.ownBlock ∨ ∃ b, s17.ownBlock = some b ∧ w0.heap.size ≤ b) ∧ Aside0 (Kp w0 Vi.ownBlock n wx) ∧ Aside0 (w0.grownBy wx Vi.ownBlock) ∧ Aside0 (d = 16 - t) ∧ t ≤ 16)
    case atStart => exact ⟨0, rfl, ⟨by rw [Nat.add_zero, ← HW0.out]; exact HO2.out⟩, ⟨.inl rfl⟩, ⟨fun b j u hc _ => by rw [← HW0.out]; exact hc⟩, ⟨by rw [← HW0.out]; exact World.grownBy.refl _ _⟩, ⟨rfl⟩, by omega⟩
    case round =>
     clear HW0 hw0; obtain ⟨q, rfl, R1, R2, R3, R4, R5, hq⟩ := hrel; have hwx : Below w.heap.size w wr := B0.out.grown R4.out B0.out.size (fun b hb => own_base HO2.out b hb); have hmx : wr.heap[lb + 1]? = some (.cells #[.string (Mk 0), .string (Mk 1), .string (Mk 2), .string (Mk 3)] 9 (0, 0)) := blk_grown M0.out R4.out (by rw [HVi.out]; exact (NL.out i hi6).2); have k1 : wr.cell? ⟨lb + 1, i, none⟩ = some (.string m) := by rw [Hm.out]; exact (blk_cell hmx i).trans (four_get (fun k => Value.string (Mk k)) i hlt)
     obtain ⟨Ag, cg, rfl⟩ := own_slice R1.out; by_cases hqt : q < 16
     ·
      have hdq : decide ((q : Int) < 16) = true := decide_eq_true (by omega); have hdq2 : decide (q < 16) = true := decide_eq_true hqt; have BX := Lib.hid hwx; clear hwx hmx; go_wp2_with (first
       | ((with_reducible refine append_cells_k (W := wr) w.heap.size rfl (.tmp 77) (.tmp 82) 57 9 (.string ⟨#[]⟩) 1 16 rfl Tryz.underlying57 infoS rfl (by decide) (by decide) _ (n + q) ((List.replicate (n + q) m).map Value.string) [.string m] rfl rfl rfl ?h1 ?ho ?hb ?hl ?_); (case h1 => intro u hu; simp at hu; subst hu; rfl); (case ho => exact R1.out); (case hb => exact BX.out.size); (case hl => omega); intro v8 w8 ho8 hb8 hg8 hat8 hk8; (have O8 := Lib.hid ho8); (have T8 := Lib.hid hat8); (have Z8 := Lib.hid hb8.size); (have X8 := Lib.hid hg8); (have Y8 := Lib.hid hk8); clear ho8 hb8 hg8 hat8 hk8)
       | fail)
      have e8 : (List.replicate (n + q) m).map Value.string ++ [.string m] = (List.replicate (n + (q + 1)) m).map Value.string := by
       rw [← Nat.add_assoc, List.replicate_succ', List.map_append]; rfl
      have G8 := Lib.hid (grown_more R4.out X8.out R2.out); have K8 := Lib.hid (kp_more R3.out (m := n + q) (fun b j u hc hbj => Y8.out b j u hc (hbj.imp id (fun h => by omega))) R2.out (by omega)); have E8 := Lib.hid e8; clear e8; go_roundg (16 - (q + 1))
      case measure => rw [R5.out]; omega
      case rel => exact ⟨q + 1, (by go_num), ⟨by rw [← E8.out]; exact O8.out⟩, ⟨by
       rcases T8.out with h | ⟨b, h, hb⟩
       · rw [h]; exact R2.out
       exact .inr ⟨b, h, Nat.le_trans R4.out.size hb⟩⟩, ⟨K8.out⟩, ⟨G8.out⟩, ⟨rfl⟩, by omega⟩
     obtain rfl : q = 16 := by omega
     have hdq : decide ((16 : Int) < 16) = false := by decide
     obtain ⟨g9, c9, hgv⟩ := own_form R1.out (by omega); cases hgv
     have hvi : ∀ b, Vi.ownBlock = some b → b < lb := fun b hb => hnb.out i hi6 b (by rw [← HVi.out]; exact hb)
     have hgne : some gb ≠ Vi.ownBlock := fun e => by have := hvi gb e.symm; have := HGB.out; omega
     have hgblk := blk_grown W0.out.blk R4.out hgne; obtain ⟨y, hy⟩ : ∃ y, gs[i]? = some y := ⟨_, Array.getElem?_eq_getElem (by rw [W0.out.size]; exact hlt)⟩; have kg : wr.cell? ⟨gb, i, none⟩ = some y := (blk_cell hgblk i).trans hy; have kf : wr.frozen? ⟨gb, i, none⟩ = false := blk_frozen hgblk i; have kl : gb < wr.heap.size := blk_lt hgblk; have hlx : wr.heap[lb]? = some (.cells #[V 0, V 1, V 2, V 3] 57 (0, 0)) := blk_grown L0.out R4.out (by rw [HVi.out]; exact (NL.out i hi6).1); have hgr := grew_next (lb := lb) W0.out AP.out hlt HGB.out (fun k h6 b hb => hnb.out k h6 b hb) (blk_lt W0.out.blk) (by rw [← Hn.out, ← Hm.out]; exact R1.out) (by rw [← HVi.out]; exact R2.out) (by rw [← HVi.out, ← Hn.out]; exact R3.out) (by rw [← HVi.out]; exact R4.out); have hwg : w.heap.size ≤ gb := by
      have := LBE.out; have := HGB.out; have := B8s.out; omega
     have N1 := Lib.hid hgr; have N2 := Lib.hid (blk_far hlx (p := ⟨gb, i, none⟩) (by show lb ≠ gb; have := HGB.out; omega) (.slice (some ⟨g9, 0, none⟩) (n + 16) cg)); have N3 := Lib.hid (blk_far hmx (p := ⟨gb, i, none⟩) (by show lb + 1 ≠ gb; have := HGB.out; omega) (.slice (some ⟨g9, 0, none⟩) (n + 16) cg)); have N4 := Lib.hid (hwx.setCell (p := ⟨gb, i, none⟩) hwg (.slice (some ⟨g9, 0, none⟩) (n + 16) cg)); clear hgr hwg hlx hgblk hgne hvi hy hwx hmx R1 R2 R3 R4 R5 k1; go_wp2_with fail; go_roundg (4 - (i + 1))
     case measure => rw [D5.out]; omega
     case rel => exact ⟨i + 1, _, _, (by go_num), ⟨N1.out⟩, ⟨N2.out⟩, ⟨N3.out⟩, ⟨N4.out⟩, ⟨rfl⟩, by omega⟩
   obtain rfl : i = 4 := by omega
   have hdi : decide ((4 : Int) < 4) = false := by decide
   obtain ⟨w4, hw4⟩ : ∃ w4 : World, w4 = wr := ⟨_, rfl⟩; have hG := R1.out; have hl := R2.out; have hm := R3.out; have hb := R4.out; rw [← hw4] at hG hl hm hb; have G4 := Lib.hid hG; have L4 := Lib.hid hl; have M4 := Lib.hid hm; have B4 := Lib.hid hb; have HW4 := Lib.hid hw4; clear hG hl hm hb hw4 R1 R2 R3 R4 R5; go_wp2_with fail; go_loopg [19, 20] 4 (fun d s19 s20 wx => ∃ (i : Nat), s19 = .int .i64 (i : Int) ∧ Aside0 (Below w4.heap.size w4 wx) ∧ Aside0 (d = 4 - i) ∧ i ≤ 4)
   case atStart => exact ⟨0, rfl, ⟨by rw [HW4.out]; exact Below.refl _ _⟩, ⟨rfl⟩, by omega⟩
   case round =>
    clear HW4; obtain ⟨i, rfl, R1, R5, hi⟩ := hrel; have hlx := blk_below L4.out R1.out; have hmx := blk_below M4.out R1.out; have hgx := blk_below G4.out.blk R1.out; by_cases hlt : i < 4
    ·
     have hdi : decide ((i : Int) < 4) = true := decide_eq_true (by omega); have hdi2 : decide (i < 4) = true := decide_eq_true hlt; have hi4 : (i : Int) < 4 := by omega
     obtain ⟨n, hn⟩ : ∃ n, n = (F i).length := ⟨_, rfl⟩; have hnl : n ≤ 65537 := by rw [hn]; exact LN.out i
     obtain ⟨L, hL⟩ : ∃ L, L = n + 16 := ⟨_, rfl⟩; obtain ⟨m, hmm⟩ : ∃ m, m = Mk i := ⟨_, rfl⟩; obtain ⟨⟨g9, c9, hGi, hcells⟩, hvcells⟩ := G4.out.done i hlt; have hmE := hmm; rw [← hn, ← hL, ← hmm] at hcells; rw [← hn, ← hmm] at hvcells; rw [← hn, ← hL] at hGi; have hGe := hGi; obtain ⟨Av, cv, hVi⟩ := SH.out i (by omega); rw [← hn] at hVi; have k2 : wr.cell? ⟨gb, i, none⟩ = some (.slice (some ⟨g9, 0, none⟩) L c9) := by rw [← hGi]; exact (blk_cell hgx i).trans (G4.out.at_ i hlt)
     have k0 : wr.cell? ⟨lb, i, none⟩ = some (.slice Av n cv) := by rw [← hVi]; exact (sM hlt hlx hmx).1
     have k1 : wr.cell? ⟨lb + 1, i, none⟩ = some (.string m) := by rw [hmm]; exact (sM hlt hlx hmx).2
     have hw16 : IntKind.i64.wrap ((n : Int) + 16) = (L : Int) := by rw [hL]; simp [IntKind.wrap, IntKind.bits, IntKind.signed]; omega
     have hself : ((L : Int) != (L : Int)) = false := bne_self_eq_false _; have HC := Lib.hid hcells; have HVC := Lib.hid hvcells; have HL2 := Lib.hid hL; have HVI := Lib.hid hVi; have HN := Lib.hid hn; clear hcells hvcells hL hVi hGi hn hmm hlx hmx hgx; go_wp2_with fail; go_quiet (fail)
     go_wp2_with fail; have hGi2 := G4.out.at_ i hlt; have HGI := Lib.hid hGi2; have HGE := Lib.hid hGe; have HM := Lib.hid hmE; clear k0 k1 k2 hGi2 hGe hmE; go_loopg [20] L (fun d s20 wx => ∃ (k : Nat), s20 = .int .i64 (k : Int) ∧ Aside0 (Below w4.heap.size w4 wx) ∧ Aside0 (d = L - k) ∧ k ≤ L)
     case atStart => exact ⟨0, rfl, ⟨pw_below_drewN R1.out _⟩, ⟨rfl⟩, Nat.zero_le _⟩
     case round =>
      obtain ⟨k, rfl, Q1, Q2, hk⟩ := hrel; have k2 : wr.cell? ⟨gb, i, none⟩ = some (.slice (some ⟨g9, 0, none⟩) L c9) := by rw [← HGE.out]; exact (blk_cell (blk_below G4.out.blk Q1.out) i).trans HGI.out
      have k0 : wr.cell? ⟨lb, i, none⟩ = some (.slice Av n cv) := by rw [← HVI.out]; exact (sM hlt (blk_below L4.out Q1.out) (blk_below M4.out Q1.out)).1
      have k1 : wr.cell? ⟨lb + 1, i, none⟩ = some (.string m) := by rw [HM.out]; exact (sM hlt (blk_below L4.out Q1.out) (blk_below M4.out Q1.out)).2
      have hLb : (L : Int) ≤ 65553 := by rw [HL2.out]; omega
      by_cases hkl : k < L
      ·
       have hdk : decide ((k : Int) < (L : Int)) = true := decide_eq_true (by omega); have hdk2 : decide (k < L) = true := decide_eq_true hkl; have hkL : (k : Int) < (L : Int) := by omega
       have kc : wr.cell? ⟨g9, k, none⟩ = some (.string m) := pw_cell_below Q1.out (HC.out k hkl); have hms : (m.toList != m.toList) = false := bne_self_eq_false _; by_cases hkn : k < n
       ·
        have hdn : decide ((k : Int) < (n : Int)) = true := decide_eq_true (by omega); have hdn2 : decide (k < n) = true := decide_eq_true hkn; have hkN : (k : Int) < (n : Int) := by omega
        obtain ⟨gv, cv2, hv2⟩ := SH2.out i (by omega) (by have := HN.out; omega); rw [HVI.out] at hv2; cases hv2
        have kv : wr.cell? ⟨gv, k, none⟩ = some (.string m) := pw_cell_below Q1.out (HVC.out gv (by rw [HVI.out]; rfl) k hkn); go_wp2_with fail; go_quiet (fail)
        go_wp2_with fail; go_roundg (L - (k + 1))
        case measure => rw [Q2.out]; omega
        case rel => exact ⟨k + 1, (by go_num), ⟨pw_below_drewN Q1.out _⟩, ⟨rfl⟩, by omega⟩
       have hdn : decide ((k : Int) < (n : Int)) = false := decide_eq_false (by omega); have hdn2 : decide (k < n) = false := decide_eq_false hkn; go_wp2_with fail; go_quiet (fail)
       go_wp2_with fail; go_roundg (L - (k + 1))
       case measure => rw [Q2.out]; omega
       case rel => exact ⟨k + 1, (by go_num), ⟨pw_below_drewN Q1.out _⟩, ⟨rfl⟩, by omega⟩
      obtain rfl : k = L := by omega
      have hdk : decide ((k : Int) < (k : Int)) = false := decide_eq_false (by omega); go_wp2_with fail; go_roundg (4 - (i + 1))
      case measure => rw [R5.out]; omega
      case rel => exact ⟨i + 1, (by go_num), ⟨Q1.out⟩, ⟨rfl⟩, by omega⟩
    obtain rfl : i = 4 := by omega
    have hdi : decide ((4 : Int) < 4) = false := by decide
    have hro4 := pw_own_below (G4.out.rows 4 (by omega) (by omega)) R1.out; have hro5 := pw_own_below (G4.out.rows 5 (by omega) (by omega)) R1.out; rw [show tolds F Mk 4 4 = F 4 from if_neg (by omega), EF.out.1] at hro4; rw [show tolds F Mk 4 5 = F 5 from if_neg (by omega), EF.out.2] at hro5; obtain ⟨A8, c8, h8, hr8⟩ := sr_own hro4; obtain ⟨A9, c9, h9, hr9⟩ := sr_own hro5; have S8 := Lib.hid hr8; have S9 := Lib.hid hr9; have BB := Lib.hid (B4.out.trans (R1.out.mono B4.out.size)); rw [h8, h9]; clear hro4 hro5 hr8 hr9 h8 h9 hlx hmx hgx R1 R5 G4 L4 M4 B4; go_wp2_with fail; refine (HL.out wr (HG.below BB.out)).mono ?_; rintro e x1 ⟨y1, rfl, hy1, hbx1⟩; obtain ⟨A10, c10, rfl, hr10⟩ := sr_own hy1; have BB1 := Lib.hid (BB.out.trans (hbx1.mono BB.out.size)); have ST := Lib.hid (sameTexts_walk La A10 A8 c10 c8 (by omega) x1 hr10 (S8.out.below hbx1)); have S9' := Lib.hid (S9.out.below hbx1); clear hy1 hbx1 hr10 S8 S9; go_wp2_with fail; refine ST.out.mono ?_; rintro e x2 ⟨rfl, hbx2⟩; have BB2 := Lib.hid (BB1.out.trans (hbx2.mono BB1.out.size)); have S9'' := Lib.hid (S9'.out.below hbx2); clear hbx2 ST S9'; go_wp2_with fail; refine (HF.out x2 (HG.below BB2.out)).mono ?_; rintro e x3 ⟨y3, rfl, hy3, hbx3⟩; obtain ⟨A11, c11, rfl, hr11⟩ := sr_own hy3; have BB3 := Lib.hid (BB2.out.trans (hbx3.mono BB2.out.size)); have ST := Lib.hid (sameTexts_walk Fb A11 A9 c11 c9 (by omega) x3 hr11 (S9''.out.below hbx3)); clear hy3 hbx3 hr11 S9''; go_wp2_with fail; refine ST.out.mono ?_; rintro e x4 ⟨rfl, hbx4⟩; have BB4 := Lib.hid (BB3.out.trans (hbx4.mono BB3.out.size)); clear hbx4 ST; go_wp2_with fail; go_ret; exact ⟨rfl, BB4.out⟩
end Go.Proofs.YtmbacdkpgfbclaaGreatDoor
